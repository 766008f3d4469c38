/-
  Each function meets its functional program. Conditions: none.
-/
import Derived.Test.YtmnggbjcnoffeaaGreatKc0
namespace Go.Proofs.YtmnggbjcnoffeaaGreat
open Go Gv
set_option linter.unusedVariables false
set_option linter.unusedSimpArgs false
set_option maxRecDepth 100000
set_option maxHeartbeats 2000000
theorem C_mcase_Codes_states {x0 : T_mcase_Codes} {pp0 : Nat} {r : (List T_api_State) × T_mcase_Codes} (h : L_mcase_Codes_states x0 = some r) : MeetsO Tryz.prog 68 [VP.eq (.pointer (some ⟨pp0, 0, none⟩))] [⟨some pp0, .var (x0 : T_mcase_Codes)⟩] (δ := Unit) (fun d => VP.of (r.1)) (fun d => [⟨some pp0, .var (r.2 : T_mcase_Codes)⟩]) := by
 unfold L_mcase_Codes_states at h
 refine MeetsO.of Tryz.func68 rfl Tryz.ntmps68 rfl fun W A => ?_
 refine Qsr ?_
 refine Qv (r_asg (look_nil (α := T_api_State))) ?_
 refine Qnr ?_
 refine Qbl ([0, 0, 65535, 3] : List Int) Tryz.underlying63 ty3 zr3 ?_
 refine Qa ?_
 refine Qnr ?_
 refine Qm ?_
 refine Qm ?_
 refine Sq.bring 0 rfl ?_
 obtain ⟨y1,hy1,h⟩:=Qbs h
 refine QcO 1 en32 (C_mcase_Codes_Next hy1) fun q1 => ?_
 obtain ⟨k1,hk1,h⟩:=Qbs h
 refine Qix hk1 Tryz.underlying63 ty3 ?_
 refine Q1 (r_loadp ty3) ?_
 refine Qv (r_buildX (b := ({ (default : T_api_State) with f_ID := 1, f_Header := 1, f_Select := 4, f_Default := lget ([0, 0, 65535, 3] : List Int) k1 } : T_api_State)) [3] zh193_3 rfl bu193 zr193 (.cons le_T_api_State_ID rfl (look_int 1) rfl (by rfl) (.cons le_T_api_State_Header rfl (look_int 1) rfl (by rfl) (.cons le_T_api_State_Select rfl (look_int 4) rfl (by rfl) (.cons le_T_api_State_Default rfl (look_t rfl) rfl (by rfl) (.nil)))))) ?_
 refine Sq.own (α := T_api_Case) 195 ?_
 refine Sq.allocX (z := (default : T_api_State)) [3] zh193_3 zr193 rfl fun p1 => ?_
 refine Sq.own (α := T_api_Case) 195 ?_
 refine Sq.storeW (i := 1) ty193 (look_t rfl) (look_t rfl) rfl ?_
 refine Qnr ?_
 refine Qv (r_build (b := ({ (default : T_api_Value) with f_Lo := 1#64 } : T_api_Value)) rfl bu43 zr43 (.cons le_T_api_Value_Lo rfl (look_u64 1 rfl) rfl (.nil))) ?_
 refine Qv (r_build (b := ({ (default : T_api_Value) with f_Lo := 15#64 } : T_api_Value)) rfl bu43 zr43 (.cons le_T_api_Value_Lo rfl (look_u64 15 rfl) rfl (.nil))) ?_
 obtain ⟨z1,hz1,h⟩:=Qbs h
 refine Qn hz1 (r_build (b := { f_Value := ({ (default : T_api_Value) with f_Lo := 1#64 } : T_api_Value), f_Mask := ({ (default : T_api_Value) with f_Lo := 15#64 } : T_api_Value), f_Next := 2 : T_api_Case }) rfl bu195 zr195 (.cons le_T_api_Case_Value rfl (look_t rfl) rfl (.cons le_T_api_Case_Mask rfl (look_t rfl) rfl (.cons le_T_api_Case_Next rfl (look_int 2) rfl (.nil))))) ?_
 refine Qv (r_build (b := ({ (default : T_api_Value) with f_Lo := 2#64 } : T_api_Value)) rfl bu43 zr43 (.cons le_T_api_Value_Lo rfl (look_u64 2 rfl) rfl (.nil))) ?_
 refine Qv (r_build (b := ({ (default : T_api_Value) with f_Lo := 3#64 } : T_api_Value)) rfl bu43 zr43 (.cons le_T_api_Value_Lo rfl (look_u64 3 rfl) rfl (.nil))) ?_
 obtain ⟨z2,hz2,h⟩:=Qbs h
 refine Qn hz2 (r_build (b := { f_Value := ({ (default : T_api_Value) with f_Lo := 2#64 } : T_api_Value), f_Mask := ({ (default : T_api_Value) with f_Lo := 3#64 } : T_api_Value), f_Next := 3 : T_api_Case }) rfl bu195 zr195 (.cons le_T_api_Case_Value rfl (look_t rfl) rfl (.cons le_T_api_Case_Mask rfl (look_t rfl) rfl (.cons le_T_api_Case_Next rfl (look_int 3) rfl (.nil))))) ?_
 refine Sq.bslO (α := T_api_Case) (r := [z1, z2]) Tryz.underlying191 ty195 zr195 rfl rfl (.cons (by simp) (look_t rfl) (.cons (by simp) (look_t rfl) (.nil))) rfl fun key1 => ?_
 refine Q1 (r_fa fd193_3) ?_
 refine Sq.storeH (i := 2) (γ := T_api_Case) (b' := (({ ({ (default : T_api_State) with f_ID := 1, f_Header := 1, f_Select := 4, f_Default := lget ([0, 0, 65535, 3] : List Int) k1 } : T_api_State) with f_Cases := [] } : T_api_State) : T_api_State)) (os' := [(3, slv key1 [z1, z2].length 2)]) ((Lens.id T_api_State).comp le_T_api_State_Cases) ty191 (look_t rfl) (look_t rfl) slv_one rfl rfl rfl rfl ?_
 refine Qns ?_
 refine Qsr ?_
 refine Qm ?_
 refine Sq.bring 4 rfl ?_
 obtain ⟨y2,hy2,h⟩:=Qbs h
 refine QcO 1 en55 (C_mcase_Codes_Bool hy2) fun q2 => ?_
 refine Qnx ?_
 obtain ⟨m1,hm1,h⟩:=Qbs h
 refine Qcm (γ:=(Option Nat × Nat)) [0, 2, 3, 4, 23] (fun g1 => []) (fun g1 => [(0, ⟨some pp0, .var (m1.1 : T_mcase_Codes)⟩), (1, ⟨g1.1, .row 195 (m1.2 : List T_api_Case) g1.2⟩), (3, ⟨some p1, .varX (({ ({ (default : T_api_State) with f_ID := 1, f_Header := 1, f_Select := 4, f_Default := lget ([0, 0, 65535, 3] : List Int) k1 } : T_api_State) with f_Cases := [] } : T_api_State) : T_api_State) [(3, slv g1.1 m1.2.length g1.2)]⟩)]) (fun g1 => ?_) (fun hm hc => ?_) fun hm hc => ?_
 ·clear hm1
  refine To.next ?_
  refine Qsr ?_
  refine Qm ?_
  refine Qm ?_
  refine Sq.bring 0 rfl ?_
  obtain ⟨y3,hy3,h⟩:=Qbs h
  refine QcO 1 en32 (C_mcase_Codes_Next hy3) fun q3 => ?_
  obtain ⟨k2,hk2,h⟩:=Qbs h
  refine Qix hk2 Tryz.underlying63 ty3 ?_
  refine Q1 (r_loadp ty3) ?_
  obtain ⟨z3,hz3,h⟩:=Qbs h
  refine Qn hz3 (r_build (b := ({ (default : T_api_State) with f_ID := 2, f_Header := 2, f_Default := lget ([0, 0, 65535, 3] : List Int) k2 } : T_api_State)) rfl bu193 zr193 (.cons le_T_api_State_ID rfl (look_int 2) rfl (.cons le_T_api_State_Header rfl (look_int 2) rfl (.cons le_T_api_State_Default rfl (look_t rfl) rfl (.nil))))) ?_
  refine Qal zr193 fun p2 => ?_
  refine Qs0 0 ty193 ?_
  refine Qnr ?_
  obtain ⟨z4,hz4,h⟩:=Qbs h
  refine Qn hz4 (r_build (b := ({ (default : T_api_State) with f_ID := 3, f_Header := 3, f_Select := 9, f_Default := 0 } : T_api_State)) rfl bu193 zr193 (.cons le_T_api_State_ID rfl (look_int 3) rfl (.cons le_T_api_State_Header rfl (look_int 3) rfl (.cons le_T_api_State_Select rfl (look_int 9) rfl (.cons le_T_api_State_Default rfl (look_int 0) rfl (.nil)))))) ?_
  refine Qal zr193 fun p3 => ?_
  refine Qs0 0 ty193 ?_
  refine Qns ?_
  refine Qsr ?_
  refine Qm ?_
  refine Sq.bring 2 rfl ?_
  obtain ⟨y4,hy4,h⟩:=Qbs h
  refine QcO 1 en32 (C_mcase_Codes_Next hy4) fun q4 => ?_
  refine Q2 r_eql ?_
  refine Qnx ?_
  obtain ⟨m2,hm2,h⟩:=Qbs h
  refine Qcm (γ:=Unit) [0, 2, 3, 4, 5, 6, 23, 50] (fun g2 => []) (fun g2 => [(0, ⟨some pp0, .var (m2.1 : T_mcase_Codes)⟩), (1, ⟨some p3, .var (m2.2 : T_api_State)⟩)]) (fun g2 => ?_) (fun hm hc => ?_) fun hm hc => ?_
  ·clear hm2
   refine To.next ?_
   refine Qsr ?_
   refine Sq.thaw (β := T_api_State) (γ := T_api_Case) (b' := (({ ({ (default : T_api_State) with f_ID := 1, f_Header := 1, f_Select := 4, f_Default := lget ([0, 0, 65535, 3] : List Int) k1 } : T_api_State) with f_Cases := m1.2 } : T_api_State) : T_api_State)) ((Lens.id T_api_State).comp le_T_api_State_Cases) 5 3 0 rfl rfl rfl rfl rfl rfl ?_
   refine Sq.fromX 5 rfl ?_
   obtain ⟨z5,hz5,h⟩:=Qbs h
   refine Qn hz5 (r_load (i := 5) (Lens.id T_api_State) (r := ({ ({ (default : T_api_State) with f_ID := 1, f_Header := 1, f_Select := 4, f_Default := lget ([0, 0, 65535, 3] : List Int) k1 } : T_api_State) with f_Cases := m1.2 } : T_api_State)) ty193 (look_t rfl) rfl rfl rfl) ?_
   refine Ql0 2 ty193 ?_
   refine Ql0 1 ty193 ?_
   refine Qbl [z5, z3, m2.2] Tryz.underlying26 ty193 zr193 ?_
   refine Qa ?_
   refine Qnx ?_
   refine Wp.ret ?_
   refine To.bring 0 rfl ?_
   obtain rfl:=some_in h
   exact Qo1 ()
  ·have h := cond_t hc hm2
   refine Wp.reg ?_
   refine Qv (r_build (b := ({ (default : T_api_Value) with f_Lo := 5#64 } : T_api_Value)) rfl bu43 zr43 (.cons le_T_api_Value_Lo rfl (look_u64 5 rfl) rfl (.nil))) ?_
   refine Qv (r_build (b := ({ (default : T_api_Value) with f_Lo := 15#64 } : T_api_Value)) rfl bu43 zr43 (.cons le_T_api_Value_Lo rfl (look_u64 15 rfl) rfl (.nil))) ?_
   refine Qm ?_
   refine Sq.bring 0 rfl ?_
   obtain ⟨y5,hy5,h⟩:=Qbs h
   refine QcO 1 en32 (C_mcase_Codes_Next hy5) fun q5 => ?_
   refine Q2 r_add ?_
   obtain ⟨z6,hz6,h⟩:=Qbs h
   refine Qn hz6 (r_build (b := { f_Value := ({ (default : T_api_Value) with f_Lo := 5#64 } : T_api_Value), f_Mask := ({ (default : T_api_Value) with f_Lo := 15#64 } : T_api_Value), f_Next := w64 (1 + y5.1) : T_api_Case }) rfl bu195 zr195 (.cons le_T_api_Case_Value rfl (look_t rfl) rfl (.cons le_T_api_Case_Mask rfl (look_t rfl) rfl (.cons le_T_api_Case_Next rfl (look_t rfl) rfl (.nil))))) ?_
   refine Qbl [z6] Tryz.underlying191 ty195 zr195 ?_
   refine Q1 (r_fa fd193_3) ?_
   refine Qst 1 le_T_api_State_Cases ty191 ?_
   refine Sq.nil ?_
   obtain rfl:=some_in h
   exact Qmt 0 (hm ())
  ·have h := cond_f hc hm2
   refine Wp.skip ?_
   obtain rfl:=some_in h
   exact Qmt 0 (hm ())
 ·have h := cond_t hc hm1
  obtain ⟨y6,hy6,h⟩:=Qbs h
  obtain ⟨z7,hz7,h⟩:=Qbs h
  obtain ⟨y7,hy7,h⟩:=Qbs h
  obtain ⟨k3,hk3,h⟩:=Qbs h
  obtain ⟨z8,hz8,h⟩:=Qbs h
  obtain ⟨y8,hy8,h⟩:=Qbs h
  refine Qwl [0, 2, 3, 4, 7, 8, 9, 10, 11, 12, 13, 14, 15, 16, 17, 18, 19, 20, 21, 22, 23] ?_
  refine Wp.drawD mixed (Hp 24 [] [] _ :: Hp 25 (0 :: []) (3 :: []) _ :: Hp 26 [] [] _ :: ⟨some 27, (2 :: []), (0 :: []), (0 :: []), fun _ => VP.of (y6.1), fun hd _ => ⟨some pp0, .var (y6.2 : T_mcase_Codes)⟩⟩ :: Hp 28 (3 :: []) [] _ :: Hp 29 (4 :: []) [] _ :: Hp 30 (5 :: []) [] _ :: Hp 31 [] [] _ :: Hp 32 [] [] _ :: Hp 33 [] [] _ :: ⟨some 34, (3 :: 9 :: []), (0 :: []), (0 :: []), fun _ => VP.of (y7.1), fun hd _ => ⟨some pp0, .var (y7.2 : T_mcase_Codes)⟩⟩ :: Hp 35 (8 :: 10 :: []) [] _ :: Hp 36 (11 :: []) [] _ :: Hp 37 (6 :: 7 :: 12 :: []) [] _ :: Hp 38 (13 :: []) [] _ :: ⟨some 39, (1 :: 14 :: []), (1 :: []), (1 :: []), fun hd => VP.eq (slv (hd 15 0) y8.length ((hd 15 1).getD 0)), fun hd _ => ⟨(hd 15 0), .row 195 (y8 : List T_api_Case) ((hd 15 1).getD 0)⟩⟩ :: Hp 40 [] [] _ :: ⟨none, (1 :: 15 :: 16 :: []), (3 :: []), (3 :: []), fun _ => VP.any, fun hd _ => ⟨some p1, .varX (({ ({ (default : T_api_State) with f_ID := 1, f_Header := 1, f_Select := 4, f_Default := lget ([0, 0, 65535, 3] : List Int) k1 } : T_api_State) with f_Cases := [] } : T_api_State) : T_api_State) [(3, slv (hd 15 0) y8.length ((hd 15 1).getD 0))]⟩⟩ :: []) _ (0 :: 2 :: 3 :: 4 :: 7 :: 8 :: 9 :: 10 :: 11 :: 12 :: 13 :: 14 :: 15 :: 16 :: 17 :: 18 :: 19 :: 20 :: 21 :: 22 :: 23 :: []) rfl rfl (by kernel_rfl) ⟨D1 (r_fa fd193_3), Dv fun hd E' L' hE hL => r_loadH (i := 3) (q := 0) (β := T_api_State) (γ := T_api_Case) ty191 (look_t (hE _ _ rfl)) (hL 3 _ rfl rfl) rfl, Dm, ?_, D2 r_mul, D1 (r_ci64 Tryz.underlying3 Tryz.underlying41), Dv fun hd E' L' hE hL => (r_build (b := ({ (default : T_api_Value) with f_Lo := BitVec.ofInt 64 (w64 (8 * y6.1)) } : T_api_Value)) rfl bu43 zr43 (.cons le_T_api_Value_Lo rfl (look_t (hE _ _ rfl)) rfl (.nil))).as (some_in hz7), Dv fun hd E' L' hE hL => r_build (b := ({ (default : T_api_Value) with f_Lo := 8#64 } : T_api_Value)) rfl bu43 zr43 (.cons le_T_api_Value_Lo rfl (look_u64 8 rfl) rfl (.nil)), Dm, Dm, ?_, Dv fun hd E' L' hE hL => r_ias (k := k3) Tryz.underlying63 ty3 (look_t (hE _ _ rfl)) (look_t (hE _ _ rfl)) (idx_some hk3), D1 (r_loadp ty3), Dv fun hd E' L' hE hL => (r_build (b := { f_Value := z7, f_Mask := ({ (default : T_api_Value) with f_Lo := 8#64 } : T_api_Value), f_Next := lget ([0, 0, 65535, 3] : List Int) k3 : T_api_Case }) rfl bu195 zr195 (.cons le_T_api_Case_Value rfl (look_t (hE _ _ rfl)) rfl (.cons le_T_api_Case_Mask rfl (look_t (hE _ _ rfl)) rfl (.cons le_T_api_Case_Next rfl (look_t (hE _ _ rfl)) rfl (.nil))))).as (some_in hz8), Dv fun hd E' L' hE hL => r_bsl (r := [z8]) Tryz.underlying191 ty195 zr195 rfl rfl (.cons (by simp) (look_t (hE _ _ rfl)) (.nil)), ?_, D1 (r_fa fd193_3), ?_, trivial⟩ fun hd1 => ?_
  ·intro hd E' L' hE hL
   refine Sq.bring 0 (hL 0 _ rfl rfl) ?_
   refine Sq.callO (Lin := [⟨some pp0, .var (y2.2 : T_mcase_Codes)⟩]) (Lr := L'.eraseIdx 0) en32 (C_mcase_Codes_Next hy6) ⟨look_t (hE _ _ rfl), look_int 2, trivial⟩ rfl fun q6 => ?_
   refine Sq.nil ?_
   refine To.back 0 (hL 0 _ rfl rfl) ?_
   exact To.fin (gm []) rfl rfl
  ·intro hd E' L' hE hL
   refine Sq.bring 0 (hL 0 _ rfl rfl) ?_
   refine Sq.callO (Lin := [⟨some pp0, .var (y6.2 : T_mcase_Codes)⟩]) (Lr := L'.eraseIdx 0) en32 (C_mcase_Codes_Next hy7) ⟨look_t (hE _ _ rfl), look_int 4, trivial⟩ rfl fun q7 => ?_
   refine Sq.nil ?_
   refine To.back 0 (hL 0 _ rfl rfl) ?_
   exact To.fin (gm []) rfl rfl
  ·intro hd E' L' hE hL
   refine Sq.app (i := 1) Tryz.underlying191 ty195 zr195 (bytes := 40) (by kernel_rfl) (look_t (hE _ _ rfl)) (hL 1 _ rfl rfl) (look_t (hE _ _ rfl)) hy8 rfl fun key2 cap1 => ?_
   refine Sq.nil ?_
   exact To.fin (gm [key2, some cap1]) rfl rfl
  ·intro hd E' L' hE hL
   refine Sq.storeH (i := 3) (γ := T_api_Case) (b' := (({ ({ (default : T_api_State) with f_ID := 1, f_Header := 1, f_Select := 4, f_Default := lget ([0, 0, 65535, 3] : List Int) k1 } : T_api_State) with f_Cases := [] } : T_api_State) : T_api_State)) (os' := [(3, slv (hd 15 0) y8.length ((hd 15 1).getD 0))]) ((Lens.id T_api_State).comp le_T_api_State_Cases) ty191 (look_t (hE _ _ rfl)) (look_t (hE _ _ rfl)) slv_one (hL 3 _ rfl rfl) rfl rfl rfl ?_
   refine Sq.nil ?_
   exact To.fin (gm []) rfl rfl
  refine To.eqL (L2 := [⟨some pp0, .var (y7.2 : T_mcase_Codes)⟩, ⟨(hd1 15 0), .row 195 (y8 : List T_api_Case) ((hd1 15 1).getD 0)⟩, ⟨none, .row 195 (([] : List T_api_Case) : List T_api_Case) 0⟩, ⟨some p1, .varX (({ ({ (default : T_api_State) with f_ID := 1, f_Header := 1, f_Select := 4, f_Default := lget ([0, 0, 65535, 3] : List Int) k1 } : T_api_State) with f_Cases := [] } : T_api_State) : T_api_State) [(3, slv (hd1 15 0) y8.length ((hd1 15 1).getD 0))]⟩, ⟨none, .row 195 (([] : List T_api_Case) : List T_api_Case) 0⟩]) rfl ?_
  refine Qtl [0, 2, 3, 4, 7, 8, 9, 10, 11, 12, 13, 14, 15, 16, 17, 18, 19, 21, 22, 23, 24, 26, 27, 28, 29, 30, 31, 32, 33, 34, 35, 36, 37, 38, 39, 40] ?_
  obtain rfl:=some_in h
  exact Qmt 0 (hm ((hd1 15 0), ((hd1 15 1).getD 0)))
 ·have h := cond_f hc hm1
  refine Wp.skip ?_
  obtain rfl:=some_in h
  exact Qmt 0 (hm (key1, 2))
end Go.Proofs.YtmnggbjcnoffeaaGreat

namespace Go.Proofs.YtmnggbjcnoffeaaGreat
open Go Gv
set_option linter.unusedVariables false
set_option linter.unusedSimpArgs false
set_option maxRecDepth 100000
set_option maxHeartbeats 2000000
theorem C_mcase_Codes_actions {x0 : T_mcase_Codes} {pp0 : Nat} {r : (List T_api_Action) × T_mcase_Codes} (h : L_mcase_Codes_actions x0 = some r) : MeetsO Tryz.prog 69 [VP.eq (.pointer (some ⟨pp0, 0, none⟩))] [⟨some pp0, .var (x0 : T_mcase_Codes)⟩] (δ := Unit) (fun d => VP.of (r.1)) (fun d => [⟨some pp0, .var (r.2 : T_mcase_Codes)⟩]) := by
 unfold L_mcase_Codes_actions at h
 refine MeetsO.of Tryz.func69 rfl Tryz.ntmps69 rfl fun W A => ?_
 refine Qsr ?_
 refine Qv (r_asg (look_nil (α := T_api_Action))) ?_
 refine Qnr ?_
 refine Qbd bu197 zr197 ({ (default : T_api_Operand) with f_Kind := 3 } : T_api_Operand) (Qfl le_T_api_Operand_Kind .nil) ?_
 refine Qal zr197 fun p1 => ?_
 refine Qs0 0 ty197 ?_
 refine Qns ?_
 obtain ⟨z1,hz1,h⟩:=Qbs h
 obtain ⟨z2,hz2,h⟩:=Qbs h
 obtain ⟨z3,hz3,h⟩:=Qbs h
 obtain ⟨z4,hz4,h⟩:=Qbs h
 obtain ⟨z5,hz5,h⟩:=Qbs h
 obtain ⟨z6,hz6,h⟩:=Qbs h
 obtain ⟨z7,hz7,h⟩:=Qbs h
 obtain ⟨z8,hz8,h⟩:=Qbs h
 obtain ⟨z9,hz9,h⟩:=Qbs h
 obtain ⟨z10,hz10,h⟩:=Qbs h
 obtain ⟨z11,hz11,h⟩:=Qbs h
 obtain ⟨z12,hz12,h⟩:=Qbs h
 obtain ⟨z13,hz13,h⟩:=Qbs h
 obtain ⟨y1,hy1,h⟩:=Qbs h
 obtain ⟨z14,hz14,h⟩:=Qbs h
 obtain ⟨y2,hy2,h⟩:=Qbs h
 obtain ⟨z15,hz15,h⟩:=Qbs h
 obtain ⟨z16,hz16,h⟩:=Qbs h
 obtain ⟨z17,hz17,h⟩:=Qbs h
 refine Wp.keep 1 ?_
 refine Qwl [0, 2, 3, 5] ?_
 refine Wp.drawD mixed (Hp 6 [] [] _ :: Hp 7 [] [] _ :: Hp 8 (1 :: []) [] _ :: Hp 9 (2 :: []) [] _ :: Hp 10 [] [] _ :: Hp 11 (4 :: []) [] _ :: Hp 12 [] (0 :: []) _ :: Hp 13 (6 :: []) [] _ :: Hp 14 (7 :: []) [] _ :: Hp 15 (5 :: 8 :: []) [] _ :: Hp 16 [] [] _ :: Hp 17 (10 :: []) [] _ :: Hp 18 [] (0 :: []) _ :: Hp 19 (12 :: []) [] _ :: Hp 20 [] [] _ :: Hp 21 (14 :: []) [] _ :: Hp 22 (13 :: 15 :: []) [] _ :: Hp 23 (11 :: 16 :: []) [] _ :: Hp 24 [] [] _ :: Hp 25 [] [] _ :: Hp 26 (18 :: 19 :: []) [] _ :: Hp 27 [] [] _ :: Hp 28 [] (0 :: []) _ :: Hp 29 (22 :: []) [] _ :: Hp 30 [] [] _ :: Hp 31 (24 :: []) [] _ :: Hp 32 (21 :: 23 :: 25 :: []) [] _ :: Hp 33 (20 :: 26 :: []) [] _ :: Hp 34 [] [] _ :: ⟨some 35, (28 :: []), (1 :: []), (1 :: []), fun _ => VP.of (y1.1), fun hd _ => ⟨some pp0, .var (y1.2 : T_mcase_Codes)⟩⟩ :: Hp 36 (29 :: []) [] _ :: Hp 37 (30 :: []) [] _ :: Hp 38 [] [] _ :: ⟨some 39, (29 :: 32 :: []), (1 :: []), (1 :: []), fun _ => VP.of (y2.1), fun hd _ => ⟨some pp0, .var (y2.2 : T_mcase_Codes)⟩⟩ :: Hp 40 (33 :: []) [] _ :: Hp 41 (34 :: []) [] _ :: Hp 42 (35 :: []) [] _ :: Hp 43 (36 :: []) [] _ :: Hp 44 (31 :: 37 :: []) [] _ :: Hp 45 (38 :: []) [] _ :: ⟨some 46, (0 :: 3 :: 9 :: 17 :: 27 :: 39 :: []), (2 :: []), (2 :: []), fun hd => VP.eq (slv (hd 40 0) [z1, z2, z5, z8, z13, z17].length 6), fun hd _ => ⟨(hd 40 0), .row 148 ([z1, z2, z5, z8, z13, z17] : List T_api_Action) 6⟩⟩ :: ⟨some 4, (40 :: []), [], [], fun hd => VP.eq (slv (hd 40 0) [z1, z2, z5, z8, z13, z17].length 6), fun _ _ => ⟨none, .dead⟩⟩ :: []) _ (0 :: 2 :: 3 :: 5 :: []) rfl rfl (by kernel_rfl) ⟨Dv fun hd E' L' hE hL => (r_build (b := ({ (default : T_api_Action) with f_ID := 1, f_Name := ByteArray.mk #[110, 111, 112] } : T_api_Action)) rfl bu148 zr148 (.cons le_T_api_Action_ID rfl (look_int 1) rfl (.cons le_T_api_Action_Name rfl (look_str (ByteArray.mk #[110, 111, 112])) rfl (.nil)))).as (some_in hz1), Dv fun hd E' L' hE hL => r_build (b := ({ (default : T_api_Prim) with f_Op := 6 } : T_api_Prim)) rfl bu199 zr199 (.cons le_T_api_Prim_Op rfl (look_int 6) rfl (.nil)), Dv fun hd E' L' hE hL => r_bsl (r := [({ (default : T_api_Prim) with f_Op := 6 } : T_api_Prim)]) Tryz.underlying146 ty199 zr199 rfl rfl (.cons (by simp) (look_t (hE _ _ rfl)) (.nil)), Dv fun hd E' L' hE hL => (r_build (b := ({ (default : T_api_Action) with f_ID := 2, f_Name := ByteArray.mk #[100, 114, 111, 112], f_Body := [({ (default : T_api_Prim) with f_Op := 6 } : T_api_Prim)] } : T_api_Action)) rfl bu148 zr148 (.cons le_T_api_Action_ID rfl (look_int 2) rfl (.cons le_T_api_Action_Name rfl (look_str (ByteArray.mk #[100, 114, 111, 112])) rfl (.cons le_T_api_Action_Body rfl (look_t (hE _ _ rfl)) rfl (.nil))))).as (some_in hz2), Dv fun hd E' L' hE hL => (r_build (b := { f_Name := ByteArray.mk #[112, 111, 114, 116], f_Bits := 16 : T_api_Param }) rfl bu151 zr151 (.cons le_T_api_Param_Name rfl (look_str (ByteArray.mk #[112, 111, 114, 116])) rfl (.cons le_T_api_Param_Bits rfl (look_int 16) rfl (.nil)))).as (some_in hz3), Dv fun hd E' L' hE hL => r_bsl (r := [z3]) Tryz.underlying145 ty151 zr151 rfl rfl (.cons (by simp) (look_t (hE _ _ rfl)) (.nil)), Dl0 0 ty197, Dv fun hd E' L' hE hL => (r_build (b := ({ (default : T_api_Prim) with f_Op := 7, f_Src := ({ (default : T_api_Operand) with f_Kind := 3 } : T_api_Operand) } : T_api_Prim)) rfl bu199 zr199 (.cons le_T_api_Prim_Op rfl (look_int 7) rfl (.cons le_T_api_Prim_Src rfl (look_t (hE _ _ rfl)) rfl (.nil)))).as (some_in hz4), Dv fun hd E' L' hE hL => r_bsl (r := [z4]) Tryz.underlying146 ty199 zr199 rfl rfl (.cons (by simp) (look_t (hE _ _ rfl)) (.nil)), Dv fun hd E' L' hE hL => (r_build (b := ({ (default : T_api_Action) with f_ID := 3, f_Name := ByteArray.mk #[102, 111, 114, 119, 97, 114, 100], f_Params := [z3], f_Body := [z4] } : T_api_Action)) rfl bu148 zr148 (.cons le_T_api_Action_ID rfl (look_int 3) rfl (.cons le_T_api_Action_Name rfl (look_str (ByteArray.mk #[102, 111, 114, 119, 97, 114, 100])) rfl (.cons le_T_api_Action_Params rfl (look_t (hE _ _ rfl)) rfl (.cons le_T_api_Action_Body rfl (look_t (hE _ _ rfl)) rfl (.nil)))))).as (some_in hz5), Dv fun hd E' L' hE hL => r_build (b := { f_Name := ByteArray.mk #[120], f_Bits := 4 : T_api_Param }) rfl bu151 zr151 (.cons le_T_api_Param_Name rfl (look_str (ByteArray.mk #[120])) rfl (.cons le_T_api_Param_Bits rfl (look_int 4) rfl (.nil))), Dv fun hd E' L' hE hL => r_bsl (r := [{ f_Name := ByteArray.mk #[120], f_Bits := 4 : T_api_Param }]) Tryz.underlying145 ty151 zr151 rfl rfl (.cons (by simp) (look_t (hE _ _ rfl)) (.nil)), Dl0 0 ty197, Dv fun hd E' L' hE hL => (r_build (b := { f_Op := 1, f_Dst := 5, f_Src := ({ (default : T_api_Operand) with f_Kind := 3 } : T_api_Operand) : T_api_Prim }) rfl bu199 zr199 (.cons le_T_api_Prim_Op rfl (look_int 1) rfl (.cons le_T_api_Prim_Dst rfl (look_int 5) rfl (.cons le_T_api_Prim_Src rfl (look_t (hE _ _ rfl)) rfl (.nil))))).as (some_in hz6), Dv fun hd E' L' hE hL => (r_build (b := ({ (default : T_api_Operand) with f_Kind := 2, f_N := 5 } : T_api_Operand)) rfl bu197 zr197 (.cons le_T_api_Operand_Kind rfl (look_int 2) rfl (.cons le_T_api_Operand_N rfl (look_int 5) rfl (.nil)))).as (some_in hz7), Dv fun hd E' L' hE hL => r_build (b := { f_Op := 2, f_Dst := 3, f_Src := z7 : T_api_Prim }) rfl bu199 zr199 (.cons le_T_api_Prim_Op rfl (look_int 2) rfl (.cons le_T_api_Prim_Dst rfl (look_int 3) rfl (.cons le_T_api_Prim_Src rfl (look_t (hE _ _ rfl)) rfl (.nil)))), Dv fun hd E' L' hE hL => r_bsl (r := [z6, { f_Op := 2, f_Dst := 3, f_Src := z7 : T_api_Prim }]) Tryz.underlying146 ty199 zr199 rfl rfl (.cons (by simp) (look_t (hE _ _ rfl)) (.cons (by simp) (look_t (hE _ _ rfl)) (.nil))), Dv fun hd E' L' hE hL => (r_build (b := ({ (default : T_api_Action) with f_ID := 4, f_Name := ByteArray.mk #[116, 97, 103], f_Params := [{ f_Name := ByteArray.mk #[120], f_Bits := 4 : T_api_Param }], f_Body := [z6, { f_Op := 2, f_Dst := 3, f_Src := z7 : T_api_Prim }] } : T_api_Action)) rfl bu148 zr148 (.cons le_T_api_Action_ID rfl (look_int 4) rfl (.cons le_T_api_Action_Name rfl (look_str (ByteArray.mk #[116, 97, 103])) rfl (.cons le_T_api_Action_Params rfl (look_t (hE _ _ rfl)) rfl (.cons le_T_api_Action_Body rfl (look_t (hE _ _ rfl)) rfl (.nil)))))).as (some_in hz8), Dv fun hd E' L' hE hL => r_build (b := { f_Name := ByteArray.mk #[120], f_Bits := 4 : T_api_Param }) rfl bu151 zr151 (.cons le_T_api_Param_Name rfl (look_str (ByteArray.mk #[120])) rfl (.cons le_T_api_Param_Bits rfl (look_int 4) rfl (.nil))), Dv fun hd E' L' hE hL => r_build (b := { f_Name := ByteArray.mk #[121], f_Bits := 12 : T_api_Param }) rfl bu151 zr151 (.cons le_T_api_Param_Name rfl (look_str (ByteArray.mk #[121])) rfl (.cons le_T_api_Param_Bits rfl (look_int 12) rfl (.nil))), Dv fun hd E' L' hE hL => (r_bsl (r := [{ f_Name := ByteArray.mk #[120], f_Bits := 4 : T_api_Param }, { f_Name := ByteArray.mk #[121], f_Bits := 12 : T_api_Param }]) Tryz.underlying145 ty151 zr151 rfl rfl (.cons (by simp) (look_t (hE _ _ rfl)) (.cons (by simp) (look_t (hE _ _ rfl)) (.nil)))).as (some_in hz9), Dv fun hd E' L' hE hL => r_build (b := ({ (default : T_api_Prim) with f_Op := 4, f_Dst := 3 } : T_api_Prim)) rfl bu199 zr199 (.cons le_T_api_Prim_Op rfl (look_int 4) rfl (.cons le_T_api_Prim_Dst rfl (look_int 3) rfl (.nil))), Dl0 0 ty197, Dv fun hd E' L' hE hL => (r_build (b := { f_Op := 1, f_Dst := 9, f_Src := ({ (default : T_api_Operand) with f_Kind := 3 } : T_api_Operand) : T_api_Prim }) rfl bu199 zr199 (.cons le_T_api_Prim_Op rfl (look_int 1) rfl (.cons le_T_api_Prim_Dst rfl (look_int 9) rfl (.cons le_T_api_Prim_Src rfl (look_t (hE _ _ rfl)) rfl (.nil))))).as (some_in hz10), Dv fun hd E' L' hE hL => (r_build (b := ({ (default : T_api_Operand) with f_Kind := 3, f_N := 1 } : T_api_Operand)) rfl bu197 zr197 (.cons le_T_api_Operand_Kind rfl (look_int 3) rfl (.cons le_T_api_Operand_N rfl (look_int 1) rfl (.nil)))).as (some_in hz11), Dv fun hd E' L' hE hL => r_build (b := { f_Op := 3, f_Dst := 8, f_Src := z11 : T_api_Prim }) rfl bu199 zr199 (.cons le_T_api_Prim_Op rfl (look_int 3) rfl (.cons le_T_api_Prim_Dst rfl (look_int 8) rfl (.cons le_T_api_Prim_Src rfl (look_t (hE _ _ rfl)) rfl (.nil)))), Dv fun hd E' L' hE hL => (r_bsl (r := [({ (default : T_api_Prim) with f_Op := 4, f_Dst := 3 } : T_api_Prim), z10, { f_Op := 3, f_Dst := 8, f_Src := z11 : T_api_Prim }]) Tryz.underlying146 ty199 zr199 rfl rfl (.cons (by simp) (look_t (hE _ _ rfl)) (.cons (by simp) (look_t (hE _ _ rfl)) (.cons (by simp) (look_t (hE _ _ rfl)) (.nil))))).as (some_in hz12), Dv fun hd E' L' hE hL => (r_build (b := ({ (default : T_api_Action) with f_ID := 5, f_Name := ByteArray.mk #[119, 114, 97, 112], f_Params := z9, f_Body := z12 } : T_api_Action)) rfl bu148 zr148 (.cons le_T_api_Action_ID rfl (look_int 5) rfl (.cons le_T_api_Action_Name rfl (look_str (ByteArray.mk #[119, 114, 97, 112])) rfl (.cons le_T_api_Action_Params rfl (look_t (hE _ _ rfl)) rfl (.cons le_T_api_Action_Body rfl (look_t (hE _ _ rfl)) rfl (.nil)))))).as (some_in hz13), Dm, ?_, D2 r_add, Dv fun hd E' L' hE hL => (r_build (b := ({ (default : T_api_Prim) with f_Op := 5, f_Dst := w64 (2 + y1.1) } : T_api_Prim)) rfl bu199 zr199 (.cons le_T_api_Prim_Op rfl (look_int 5) rfl (.cons le_T_api_Prim_Dst rfl (look_t (hE _ _ rfl)) rfl (.nil)))).as (some_in hz14), Dm, ?_, D1 (r_ci64 Tryz.underlying3 Tryz.underlying41), Dv fun hd E' L' hE hL => (r_build (b := ({ (default : T_api_Value) with f_Lo := BitVec.ofInt 64 y2.1 } : T_api_Value)) rfl bu43 zr43 (.cons le_T_api_Value_Lo rfl (look_t (hE _ _ rfl)) rfl (.nil))).as (some_in hz15), Dv fun hd E' L' hE hL => (r_build (b := ({ (default : T_api_Operand) with f_Kind := 1, f_Value := z15 } : T_api_Operand)) rfl bu197 zr197 (.cons le_T_api_Operand_Kind rfl (look_int 1) rfl (.cons le_T_api_Operand_Value rfl (look_t (hE _ _ rfl)) rfl (.nil)))).as (some_in hz16), Dv fun hd E' L' hE hL => r_build (b := { f_Op := 2, f_Dst := 6, f_Src := z16 : T_api_Prim }) rfl bu199 zr199 (.cons le_T_api_Prim_Op rfl (look_int 2) rfl (.cons le_T_api_Prim_Dst rfl (look_int 6) rfl (.cons le_T_api_Prim_Src rfl (look_t (hE _ _ rfl)) rfl (.nil)))), Dv fun hd E' L' hE hL => r_bsl (r := [z14, { f_Op := 2, f_Dst := 6, f_Src := z16 : T_api_Prim }]) Tryz.underlying146 ty199 zr199 rfl rfl (.cons (by simp) (look_t (hE _ _ rfl)) (.cons (by simp) (look_t (hE _ _ rfl)) (.nil))), Dv fun hd E' L' hE hL => (r_build (b := ({ (default : T_api_Action) with f_ID := 6, f_Name := ByteArray.mk #[115, 116, 114, 105, 112], f_Body := [z14, { f_Op := 2, f_Dst := 6, f_Src := z16 : T_api_Prim }] } : T_api_Action)) rfl bu148 zr148 (.cons le_T_api_Action_ID rfl (look_int 6) rfl (.cons le_T_api_Action_Name rfl (look_str (ByteArray.mk #[115, 116, 114, 105, 112])) rfl (.cons le_T_api_Action_Body rfl (look_t (hE _ _ rfl)) rfl (.nil))))).as (some_in hz17), ?_, ?_, trivial⟩ fun hd1 => ?_
 ·intro hd E' L' hE hL
  refine Sq.bring 1 (hL 1 _ rfl rfl) ?_
  refine Sq.callO (Lin := [⟨some pp0, .var (x0 : T_mcase_Codes)⟩]) (Lr := L'.eraseIdx 1) en32 (C_mcase_Codes_Next hy1) ⟨look_t (hE _ _ rfl), look_int 2, trivial⟩ rfl fun q1 => ?_
  refine Sq.nil ?_
  refine To.back 1 (hL 1 _ rfl rfl) ?_
  exact To.fin (gm []) rfl rfl
 ·intro hd E' L' hE hL
  refine Sq.bring 1 (hL 1 _ rfl rfl) ?_
  refine Sq.callO (Lin := [⟨some pp0, .var (y1.2 : T_mcase_Codes)⟩]) (Lr := L'.eraseIdx 1) en32 (C_mcase_Codes_Next hy2) ⟨look_t (hE _ _ rfl), look_int 256, trivial⟩ rfl fun q2 => ?_
  refine Sq.nil ?_
  refine To.back 1 (hL 1 _ rfl rfl) ?_
  exact To.fin (gm []) rfl rfl
 ·intro hd E' L' hE hL
  refine Sq.bslO (α := T_api_Action) (r := [z1, z2, z5, z8, z13, z17]) Tryz.underlying27 ty148 zr148 rfl rfl (.cons (by simp) (look_t (hE _ _ rfl)) (.cons (by simp) (look_t (hE _ _ rfl)) (.cons (by simp) (look_t (hE _ _ rfl)) (.cons (by simp) (look_t (hE _ _ rfl)) (.cons (by simp) (look_t (hE _ _ rfl)) (.cons (by simp) (look_t (hE _ _ rfl)) (.nil))))))) rfl fun key1 => ?_
  refine Sq.nil ?_
  refine To.place 2 (hL 2 _ rfl rfl) ?_
  exact To.fin (gm [key1]) rfl rfl
 ·intro hd E' L' hE hL
  refine Qv (r_asg (look_t (hE _ _ rfl))) ?_
  refine Sq.nil ?_
  exact To.fin (gm []) rfl rfl
 refine To.eqL (L2 := [⟨some p1, .var (({ (default : T_api_Operand) with f_Kind := 3 } : T_api_Operand) : T_api_Operand)⟩, ⟨some pp0, .var (y2.2 : T_mcase_Codes)⟩, ⟨(hd1 40 0), .row 148 ([z1, z2, z5, z8, z13, z17] : List T_api_Action) 6⟩]) rfl ?_
 refine Qtl [0, 2, 3, 4, 5, 6, 7, 8, 9, 10, 11, 12, 13, 14, 15, 16, 17, 18, 19, 20, 21, 22, 23, 24, 25, 26, 27, 28, 29, 30, 31, 32, 33, 34, 35, 36, 37, 38, 39, 40, 41, 42, 43, 44, 45, 46] ?_
 refine To.bring 2 rfl ?_
 refine To.next ?_
 refine Wp.seq ?_
 refine Qsr ?_
 refine Qm ?_
 refine Sq.bring 2 rfl ?_
 obtain ⟨y3,hy3,h⟩:=Qbs h
 refine QcO 1 en55 (C_mcase_Codes_Bool hy3) fun q3 => ?_
 refine Qnx ?_
 obtain ⟨m1,hm1,h⟩:=Qbs h
 refine Qcm (γ:=(Option Nat × Nat)) [0, 2, 3, 48] (fun g1 => [(4, VP.eq (slv g1.1 m1.length g1.2))]) (fun g1 => [(1, ⟨g1.1, .row 148 (m1 : List T_api_Action) g1.2⟩)]) (fun g1 => ?_) (fun hm hc => ?_) fun hm hc => ?_
 ·clear hm1
  refine To.next ?_
  refine Wp.seq ?_
  refine Qsr ?_
  refine Qm ?_
  refine Sq.bring 0 rfl ?_
  obtain ⟨y4,hy4,h⟩:=Qbs h
  refine QcO 1 en55 (C_mcase_Codes_Bool hy4) fun q4 => ?_
  refine Qnx ?_
  obtain ⟨m2,hm2,h⟩:=Qbs h
  refine Qcm (γ:=(Option Nat × Nat)) [0, 2, 3, 48, 53] (fun g2 => [(4, VP.eq (slv g2.1 m2.length g2.2))]) (fun g2 => [(1, ⟨g2.1, .row 148 (m2 : List T_api_Action) g2.2⟩)]) (fun g2 => ?_) (fun hm hc => ?_) fun hm hc => ?_
  ·clear hm2
   refine To.next ?_
   refine Qsr ?_
   refine Qm ?_
   refine Qa ?_
   refine Qnx ?_
   refine Wp.ret ?_
   refine To.freezeL (α := T_api_Action) 1 [2, 4, 57] ⟨rfl, rfl, rfl, trivial⟩ rfl ?_
   refine To.bring 0 rfl ?_
   obtain rfl:=some_in h
   exact Qo1 ()
  ·have h := cond_t hc hm2
   refine Wp.reg ?_
   refine Qm ?_
   obtain ⟨k1,hk1,h⟩:=Qbs h
   refine Qv (r_iaO (i := 1) (k := k1) (xs := (m1 : List T_api_Action)) Tryz.underlying27 ty148 (look_t rfl) (look_int 4) rfl (idx_some hk1)) ?_
   refine Q1 (r_fa fd148_4) ?_
   obtain ⟨z18,hz18,h⟩:=Qbs h
   refine Sq.storeR (i := 1) (k := k1) ((Lens.id T_api_Action).comp le_T_api_Action_Restriction) (v := (ByteArray.mk #[120, 32, 60, 32, 121, 32, 124, 124, 32, 120, 32, 61, 61, 32, 49, 53] : ByteArray)) (r := (z18 : List T_api_Action)) ty9 (look_t rfl) (look_str (ByteArray.mk #[120, 32, 60, 32, 121, 32, 124, 124, 32, 120, 32, 61, 61, 32, 49, 53])) rfl (idx_some hk1).1 rfl (some_in hz18) ?_
   refine Sq.relen (m := z18.length) 4 rfl (lset_len (some_in hz18)) ?_
   refine Sq.relen (m := z18.length) 54 rfl (lset_len (some_in hz18)) ?_
   refine Sq.nil ?_
   obtain rfl:=some_in h
   exact Qmt 0 (hm (g1.1, g1.2))
  ·have h := cond_f hc hm2
   refine Wp.skip ?_
   obtain rfl:=some_in h
   exact Qmt 0 (hm (g1.1, g1.2))
 ·have h := cond_t hc hm1
  refine Wp.reg ?_
  refine Qm ?_
  obtain ⟨k2,hk2,h⟩:=Qbs h
  refine Qv (r_iaO (i := 1) (k := k2) (xs := ([z1, z2, z5, z8, z13, z17] : List T_api_Action)) Tryz.underlying27 ty148 (look_t rfl) (look_int 2) rfl (idx_some hk2)) ?_
  refine Q1 (r_fa fd148_4) ?_
  obtain ⟨z19,hz19,h⟩:=Qbs h
  refine Sq.storeR (i := 1) (k := k2) ((Lens.id T_api_Action).comp le_T_api_Action_Restriction) (v := (ByteArray.mk #[112, 111, 114, 116, 32, 33, 61, 32, 48] : ByteArray)) (r := (z19 : List T_api_Action)) ty9 (look_t rfl) (look_str (ByteArray.mk #[112, 111, 114, 116, 32, 33, 61, 32, 48])) rfl (idx_some hk2).1 rfl (some_in hz19) ?_
  refine Sq.relen (m := z19.length) 4 rfl (lset_len (some_in hz19)) ?_
  refine Sq.relen (m := z19.length) 46 rfl (lset_len (some_in hz19)) ?_
  refine Sq.relen (m := z19.length) 49 rfl (lset_len (some_in hz19)) ?_
  refine Sq.nil ?_
  obtain rfl:=some_in h
  exact Qmt 0 (hm ((hd1 40 0), 6))
 ·have h := cond_f hc hm1
  refine Wp.skip ?_
  obtain rfl:=some_in h
  exact Qmt 0 (hm ((hd1 40 0), 6))
end Go.Proofs.YtmnggbjcnoffeaaGreat

namespace Go.Proofs.YtmnggbjcnoffeaaGreat
open Go Gv
set_option linter.unusedVariables false
set_option linter.unusedSimpArgs false
set_option maxRecDepth 100000
set_option maxHeartbeats 2000000
theorem C_mcase_Codes_tables {x0 : T_mcase_Codes} {pp0 : Nat} {r : (List T_api_Table) × T_mcase_Codes} (h : L_mcase_Codes_tables x0 = some r) : MeetsO Tryz.prog 70 [VP.eq (.pointer (some ⟨pp0, 0, none⟩))] [⟨some pp0, .var (x0 : T_mcase_Codes)⟩] (δ := Unit) (fun d => VP.of (r.1)) (fun d => [⟨some pp0, .var (r.2 : T_mcase_Codes)⟩]) := by
 unfold L_mcase_Codes_tables at h
 refine MeetsO.of Tryz.func70 rfl Tryz.ntmps70 rfl fun W A => ?_
 refine Qsr ?_
 refine Qv (r_asg (look_nil (α := T_api_Table))) ?_
 refine Qnr ?_
 obtain ⟨z1,hz1,h⟩:=Qbs h
 refine Qn hz1 (r_build (b := { f_Name := ByteArray.mk #[97], f_Field := 4, f_Kind := 1 : T_api_Key }) rfl bu86 zr86 (.cons le_T_api_Key_Name rfl (look_str (ByteArray.mk #[97])) rfl (.cons le_T_api_Key_Field rfl (look_int 4) rfl (.cons le_T_api_Key_Kind rfl (look_int 1) rfl (.nil))))) ?_
 refine Qbl [z1] Tryz.underlying62 ty86 zr86 ?_
 refine Qbl ([1, 2, 4] : List Int) Tryz.underlying63 ty3 zr3 ?_
 refine Qm ?_
 refine Sq.bring 0 rfl ?_
 obtain ⟨y1,hy1,h⟩:=Qbs h
 refine QcO 1 en32 (C_mcase_Codes_Next hy1) fun q1 => ?_
 refine Q2 r_add ?_
 refine Qm ?_
 refine Sq.bring 0 rfl ?_
 obtain ⟨y2,hy2,h⟩:=Qbs h
 refine QcO 1 en32 (C_mcase_Codes_Next hy2) fun q2 => ?_
 refine Q2 r_add ?_
 obtain ⟨z2,hz2,h⟩:=Qbs h
 refine Qn hz2 (r_build (b := ({ (default : T_api_Table) with f_ID := 1, f_Name := ByteArray.mk #[112, 111, 114, 116, 115], f_Keys := [z1], f_Actions := ([1, 2, 4] : List Int), f_Default := w64 (1 + y1.1), f_Size := w64 (2 + y2.1) } : T_api_Table)) rfl bu65 zr65 (.cons le_T_api_Table_ID rfl (look_int 1) rfl (.cons le_T_api_Table_Name rfl (look_str (ByteArray.mk #[112, 111, 114, 116, 115])) rfl (.cons le_T_api_Table_Keys rfl (look_t rfl) rfl (.cons le_T_api_Table_Actions rfl (look_t rfl) rfl (.cons le_T_api_Table_Default rfl (look_t rfl) rfl (.cons le_T_api_Table_Size rfl (look_t rfl) rfl (.nil)))))))) ?_
 refine Qal zr65 fun p1 => ?_
 refine Qs0 0 ty65 ?_
 refine Qnr ?_
 obtain ⟨z3,hz3,h⟩:=Qbs h
 refine Qn hz3 (r_build (b := { f_Name := ByteArray.mk #[100], f_Field := 7, f_Kind := 2 : T_api_Key }) rfl bu86 zr86 (.cons le_T_api_Key_Name rfl (look_str (ByteArray.mk #[100])) rfl (.cons le_T_api_Key_Field rfl (look_int 7) rfl (.cons le_T_api_Key_Kind rfl (look_int 2) rfl (.nil))))) ?_
 refine Sq.bslO (α := T_api_Key) (r := [z3]) Tryz.underlying62 ty86 zr86 rfl rfl (.cons (by simp) (look_t rfl) (.nil)) rfl fun key1 => ?_
 refine Qbl ([1, 2, 3, 4] : List Int) Tryz.underlying63 ty3 zr3 ?_
 refine Qm ?_
 refine Sq.bring 2 rfl ?_
 obtain ⟨y3,hy3,h⟩:=Qbs h
 refine QcO 1 en32 (C_mcase_Codes_Next hy3) fun q3 => ?_
 refine Q2 r_add ?_
 refine Qv (r_buildX (b := ({ (default : T_api_Table) with f_ID := 2, f_Name := ByteArray.mk #[114, 111, 117, 116, 101, 115], f_Actions := ([1, 2, 3, 4] : List Int), f_Default := 2, f_Size := w64 (3 + y3.1) } : T_api_Table)) [] zh65_n rfl bu65 zr65 (.cons le_T_api_Table_ID rfl (look_int 2) rfl (by rfl) (.cons le_T_api_Table_Name rfl (look_str (ByteArray.mk #[114, 111, 117, 116, 101, 115])) rfl (by rfl) (.hole le_T_api_Table_Keys rfl (look_t rfl) slv_one rfl rfl (.cons le_T_api_Table_Actions rfl (look_t rfl) rfl (by rfl) (.cons le_T_api_Table_Default rfl (look_int 2) rfl (by rfl) (.cons le_T_api_Table_Size rfl (look_t rfl) rfl (by rfl) (.nil)))))))) ?_
 refine Sq.allocX (z := (default : T_api_Table)) [2] zh65_2 zr65 rfl fun p2 => ?_
 refine Sq.own (α := T_api_Key) 86 ?_
 refine Sq.storeW (i := 1) ty65 (look_t rfl) (look_t rfl) rfl ?_
 refine Qns ?_
 refine Qsr ?_
 refine Qm ?_
 refine Sq.bring 2 rfl ?_
 obtain ⟨y4,hy4,h⟩:=Qbs h
 refine QcO 1 en55 (C_mcase_Codes_Bool hy4) fun q4 => ?_
 refine Qnx ?_
 obtain ⟨m1,hm1,h⟩:=Qbs h
 refine Qcm (γ:=(Option Nat × Nat)) [0, 2, 3, 4, 28] (fun g1 => []) (fun g1 => [(2, ⟨some p2, .varX (m1.1 : T_api_Table) [(2, slv g1.1 m1.2.length g1.2)]⟩), (3, ⟨g1.1, .row 86 (m1.2 : List T_api_Key) g1.2⟩)]) (fun g1 => ?_) (fun hm hc => ?_) fun hm hc => ?_
 ·clear hm1
  refine To.next ?_
  refine Qsr ?_
  obtain ⟨z4,hz4,h⟩:=Qbs h
  refine Qn hz4 (r_build (b := { f_Name := ByteArray.mk #[101], f_Field := 6, f_Kind := 3 : T_api_Key }) rfl bu86 zr86 (.cons le_T_api_Key_Name rfl (look_str (ByteArray.mk #[101])) rfl (.cons le_T_api_Key_Field rfl (look_int 6) rfl (.cons le_T_api_Key_Kind rfl (look_int 3) rfl (.nil))))) ?_
  obtain ⟨z5,hz5,h⟩:=Qbs h
  refine Qn hz5 (r_build (b := { f_Name := ByteArray.mk #[97], f_Field := 4, f_Kind := 3 : T_api_Key }) rfl bu86 zr86 (.cons le_T_api_Key_Name rfl (look_str (ByteArray.mk #[97])) rfl (.cons le_T_api_Key_Field rfl (look_int 4) rfl (.cons le_T_api_Key_Kind rfl (look_int 3) rfl (.nil))))) ?_
  refine Sq.bslO (α := T_api_Key) (r := [z4, z5]) Tryz.underlying62 ty86 zr86 rfl rfl (.cons (by simp) (look_t rfl) (.cons (by simp) (look_t rfl) (.nil))) rfl fun key2 => ?_
  refine Qbl ([1, 2, 3, 5, 6] : List Int) Tryz.underlying63 ty3 zr3 ?_
  refine Qm ?_
  refine Sq.bring 1 rfl ?_
  obtain ⟨y5,hy5,h⟩:=Qbs h
  refine QcO 1 en32 (C_mcase_Codes_Next hy5) fun q5 => ?_
  refine Q2 r_add ?_
  refine Qv (r_buildX (b := ({ (default : T_api_Table) with f_ID := 3, f_Name := ByteArray.mk #[97, 99, 108], f_Actions := ([1, 2, 3, 5, 6] : List Int), f_Default := 1, f_Size := w64 (4 + y5.1) } : T_api_Table)) [] zh65_n rfl bu65 zr65 (.cons le_T_api_Table_ID rfl (look_int 3) rfl (by rfl) (.cons le_T_api_Table_Name rfl (look_str (ByteArray.mk #[97, 99, 108])) rfl (by rfl) (.hole le_T_api_Table_Keys rfl (look_t rfl) slv_one rfl rfl (.cons le_T_api_Table_Actions rfl (look_t rfl) rfl (by rfl) (.cons le_T_api_Table_Default rfl (look_int 1) rfl (by rfl) (.cons le_T_api_Table_Size rfl (look_t rfl) rfl (by rfl) (.nil)))))))) ?_
  refine Sq.allocX (z := (default : T_api_Table)) [2] zh65_2 zr65 rfl fun p3 => ?_
  refine Sq.own (α := T_api_Key) 86 ?_
  refine Sq.storeW (i := 1) ty65 (look_t rfl) (look_t rfl) rfl ?_
  refine Qns ?_
  refine Qsr ?_
  refine Qm ?_
  refine Sq.bring 2 rfl ?_
  obtain ⟨y6,hy6,h⟩:=Qbs h
  refine QcO 1 en55 (C_mcase_Codes_Bool hy6) fun q6 => ?_
  refine Qnx ?_
  obtain ⟨m2,hm2,h⟩:=Qbs h
  refine Qcm (γ:=(Option Nat × Nat)) [0, 2, 3, 4, 5, 28, 44] (fun g2 => []) (fun g2 => [(2, ⟨some p3, .varX (m2.1 : T_api_Table) [(2, slv g2.1 m2.2.length g2.2)]⟩), (3, ⟨g2.1, .row 86 (m2.2 : List T_api_Key) g2.2⟩)]) (fun g2 => ?_) (fun hm hc => ?_) fun hm hc => ?_
  ·clear hm2
   refine To.next ?_
   refine Qsr ?_
   obtain ⟨z6,hz6,h⟩:=Qbs h
   refine Qn hz6 (r_build (b := { f_Name := ByteArray.mk #[102], f_Field := 8, f_Kind := 4 : T_api_Key }) rfl bu86 zr86 (.cons le_T_api_Key_Name rfl (look_str (ByteArray.mk #[102])) rfl (.cons le_T_api_Key_Field rfl (look_int 8) rfl (.cons le_T_api_Key_Kind rfl (look_int 4) rfl (.nil))))) ?_
   refine Sq.bslO (α := T_api_Key) (r := [z6]) Tryz.underlying62 ty86 zr86 rfl rfl (.cons (by simp) (look_t rfl) (.nil)) rfl fun key3 => ?_
   refine Qbl ([1, 3, 5] : List Int) Tryz.underlying63 ty3 zr3 ?_
   refine Qv (r_build (b := ({ (default : T_api_Value) with f_Lo := 7#64 } : T_api_Value)) rfl bu43 zr43 (.cons le_T_api_Value_Lo rfl (look_u64 7 rfl) rfl (.nil))) ?_
   refine Qbl [({ (default : T_api_Value) with f_Lo := 7#64 } : T_api_Value)] Tryz.underlying48 ty43 zr43 ?_
   refine Qm ?_
   refine Sq.bring 1 rfl ?_
   obtain ⟨y7,hy7,h⟩:=Qbs h
   refine QcO 1 en32 (C_mcase_Codes_Next hy7) fun q7 => ?_
   refine Q2 r_add ?_
   refine Qv (r_buildX (b := ({ (default : T_api_Table) with f_ID := 4, f_Name := ByteArray.mk #[115, 112, 97, 110, 115], f_Actions := ([1, 3, 5] : List Int), f_Default := 3, f_DefaultArgs := [({ (default : T_api_Value) with f_Lo := 7#64 } : T_api_Value)], f_Size := w64 (3 + y7.1) } : T_api_Table)) [] zh65_n rfl bu65 zr65 (.cons le_T_api_Table_ID rfl (look_int 4) rfl (by rfl) (.cons le_T_api_Table_Name rfl (look_str (ByteArray.mk #[115, 112, 97, 110, 115])) rfl (by rfl) (.hole le_T_api_Table_Keys rfl (look_t rfl) slv_one rfl rfl (.cons le_T_api_Table_Actions rfl (look_t rfl) rfl (by rfl) (.cons le_T_api_Table_Default rfl (look_int 3) rfl (by rfl) (.cons le_T_api_Table_DefaultArgs rfl (look_t rfl) rfl (by rfl) (.cons le_T_api_Table_Size rfl (look_t rfl) rfl (by rfl) (.nil))))))))) ?_
   refine Sq.allocX (z := (default : T_api_Table)) [2] zh65_2 zr65 rfl fun p4 => ?_
   refine Sq.own (α := T_api_Key) 86 ?_
   refine Sq.storeW (i := 1) ty65 (look_t rfl) (look_t rfl) rfl ?_
   refine Qns ?_
   refine Qsr ?_
   refine Qm ?_
   refine Sq.bring 2 rfl ?_
   obtain ⟨y8,hy8,h⟩:=Qbs h
   refine QcO 1 en55 (C_mcase_Codes_Bool hy8) fun q8 => ?_
   refine Qnx ?_
   obtain ⟨m3,hm3,h⟩:=Qbs h
   refine Qcm (γ:=(Option Nat × Nat)) [0, 2, 3, 4, 5, 6, 28, 44, 61] (fun g3 => []) (fun g3 => [(2, ⟨some p4, .varX (m3.1 : T_api_Table) [(2, slv g3.1 m3.2.length g3.2)]⟩), (3, ⟨g3.1, .row 86 (m3.2 : List T_api_Key) g3.2⟩)]) (fun g3 => ?_) (fun hm hc => ?_) fun hm hc => ?_
   ·clear hm3
    refine To.next ?_
    refine Qsr ?_
    refine Ql0 10 ty65 ?_
    refine Sq.thaw (β := T_api_Table) (γ := T_api_Key) (b' := (({ m1.1 with f_Keys := m1.2 } : T_api_Table) : T_api_Table)) ((Lens.id T_api_Table).comp le_T_api_Table_Keys) 8 9 0 rfl rfl rfl rfl rfl rfl ?_
    refine Sq.fromX 8 rfl ?_
    refine Ql0 8 ty65 ?_
    refine Sq.thaw (β := T_api_Table) (γ := T_api_Key) (b' := (({ m2.1 with f_Keys := m2.2 } : T_api_Table) : T_api_Table)) ((Lens.id T_api_Table).comp le_T_api_Table_Keys) 5 6 0 rfl rfl rfl rfl rfl rfl ?_
    refine Sq.fromX 5 rfl ?_
    refine Ql0 5 ty65 ?_
    refine Sq.thaw (β := T_api_Table) (γ := T_api_Key) (b' := (({ m3.1 with f_Keys := m3.2 } : T_api_Table) : T_api_Table)) ((Lens.id T_api_Table).comp le_T_api_Table_Keys) 2 3 0 rfl rfl rfl rfl rfl rfl ?_
    refine Sq.fromX 2 rfl ?_
    refine Ql0 2 ty65 ?_
    obtain ⟨z7,hz7,h⟩:=Qbs h
    refine Sq.bslN (α := T_api_Table) (r0 := [z2, ({ m1.1 with f_Keys := m1.2 } : T_api_Table), ({ m2.1 with f_Keys := m2.2 } : T_api_Table), ({ m3.1 with f_Keys := m3.2 } : T_api_Table)]) (r := z7) Tryz.underlying28 ty65 zr65 rfl rfl (.cons (by simp) (look_t rfl) (.cons (by simp) (look_t rfl) (.cons (by simp) (look_t rfl) (.cons (by simp) (look_t rfl) (.nil))))) (some_in hz7) rfl fun key4 => ?_
    refine Qa ?_
    refine Qnr ?_
    obtain ⟨z8,hz8,h⟩:=Qbs h
    refine Qn hz8 (r_bsl (r := [ByteArray.mk #[], ByteArray.mk #[97, 32, 33, 61, 32, 48], ByteArray.mk #[97, 32, 60, 32, 49, 52, 32, 38, 38, 32, 97, 32, 33, 61, 32, 51]]) Tryz.underlying200 ty9 zr9 rfl rfl (.cons (by simp) (look_str (ByteArray.mk #[])) (.cons (by simp) (look_str (ByteArray.mk #[97, 32, 33, 61, 32, 48])) (.cons (by simp) (look_str (ByteArray.mk #[97, 32, 60, 32, 49, 52, 32, 38, 38, 32, 97, 32, 33, 61, 32, 51])) (.nil))))) ?_
    obtain ⟨z9,hz9,h⟩:=Qbs h
    refine Qn hz9 (r_bsl (r := [ByteArray.mk #[], ByteArray.mk #[100, 58, 58, 112, 114, 101, 102, 105, 120, 95, 108, 101, 110, 103, 116, 104, 32, 62, 61, 32, 56], ByteArray.mk #[100, 58, 58, 112, 114, 101, 102, 105, 120, 95, 108, 101, 110, 103, 116, 104, 32, 61, 61, 32, 51, 50, 32, 45, 62, 32, 100, 58, 58, 118, 97, 108, 117, 101, 32, 62, 32, 48, 120, 102, 102]]) Tryz.underlying200 ty9 zr9 rfl rfl (.cons (by simp) (look_str (ByteArray.mk #[])) (.cons (by simp) (look_str (ByteArray.mk #[100, 58, 58, 112, 114, 101, 102, 105, 120, 95, 108, 101, 110, 103, 116, 104, 32, 62, 61, 32, 56])) (.cons (by simp) (look_str (ByteArray.mk #[100, 58, 58, 112, 114, 101, 102, 105, 120, 95, 108, 101, 110, 103, 116, 104, 32, 61, 61, 32, 51, 50, 32, 45, 62, 32, 100, 58, 58, 118, 97, 108, 117, 101, 32, 62, 32, 48, 120, 102, 102])) (.nil))))) ?_
    obtain ⟨z10,hz10,h⟩:=Qbs h
    refine Qn hz10 (r_bsl (r := [ByteArray.mk #[], ByteArray.mk #[112, 114, 105, 111, 114, 105, 116, 121, 32, 60, 32, 49, 48, 48, 32, 38, 38, 32, 40, 101, 58, 58, 109, 97, 115, 107, 32, 33, 61, 32, 48, 32, 124, 124, 32, 97, 58, 58, 109, 97, 115, 107, 32, 33, 61, 32, 48, 41], ByteArray.mk #[101, 58, 58, 109, 97, 115, 107, 32, 61, 61, 32, 48, 32, 45, 62, 32, 112, 114, 105, 111, 114, 105, 116, 121, 32, 62, 32, 53]]) Tryz.underlying200 ty9 zr9 rfl rfl (.cons (by simp) (look_str (ByteArray.mk #[])) (.cons (by simp) (look_str (ByteArray.mk #[112, 114, 105, 111, 114, 105, 116, 121, 32, 60, 32, 49, 48, 48, 32, 38, 38, 32, 40, 101, 58, 58, 109, 97, 115, 107, 32, 33, 61, 32, 48, 32, 124, 124, 32, 97, 58, 58, 109, 97, 115, 107, 32, 33, 61, 32, 48, 41])) (.cons (by simp) (look_str (ByteArray.mk #[101, 58, 58, 109, 97, 115, 107, 32, 61, 61, 32, 48, 32, 45, 62, 32, 112, 114, 105, 111, 114, 105, 116, 121, 32, 62, 32, 53])) (.nil))))) ?_
    obtain ⟨z11,hz11,h⟩:=Qbs h
    refine Qn hz11 (r_bsl (r := [ByteArray.mk #[], ByteArray.mk #[102, 58, 58, 104, 105, 103, 104, 32, 45, 32, 102, 58, 58, 108, 111, 119, 32, 60, 61, 32, 48, 120, 49, 48, 48], ByteArray.mk #[33, 40, 102, 58, 58, 108, 111, 119, 32, 61, 61, 32, 48, 32, 38, 38, 32, 102, 58, 58, 104, 105, 103, 104, 32, 62, 32, 49, 48, 48, 48, 41]]) Tryz.underlying200 ty9 zr9 rfl rfl (.cons (by simp) (look_str (ByteArray.mk #[])) (.cons (by simp) (look_str (ByteArray.mk #[102, 58, 58, 104, 105, 103, 104, 32, 45, 32, 102, 58, 58, 108, 111, 119, 32, 60, 61, 32, 48, 120, 49, 48, 48])) (.cons (by simp) (look_str (ByteArray.mk #[33, 40, 102, 58, 58, 108, 111, 119, 32, 61, 61, 32, 48, 32, 38, 38, 32, 102, 58, 58, 104, 105, 103, 104, 32, 62, 32, 49, 48, 48, 48, 41])) (.nil))))) ?_
    refine Qbl [z8, z9, z10, z11] Tryz.underlying201 ty200 zr200 ?_
    refine Qa ?_
    refine Qns ?_
    refine Qsr ?_
    refine Qm ?_
    refine Qv (r_lenO (i := 0) Tryz.underlying28 (look_t rfl) rfl rfl) ?_
    refine Qm ?_
    refine Qnx ?_
    refine Wp.block ?_
    obtain ⟨e1,hl,h⟩:=Qbs h
    refine Qlp (γ:=(Option Nat × Nat)) (δ:=(Option Nat × Nat)) hl [0, 2, 3, 4, 5, 6, 8, 28, 44, 61, 80] (fun s1 g4 => [(7, VP.eq (slv g4.1 s1.2.1.length g4.2)), (81, VP.of (s1.1))]) (fun s1 g4 => [(0, ⟨g4.1, .row 65 (s1.2.1 : List T_api_Table) g4.2⟩), (1, ⟨some pp0, .var (s1.2.2 : T_mcase_Codes)⟩)]) (fun q9 => Exit.exit 0) (fun q9 g4 => [(7, VP.eq (slv g4.1 q9.2.2.1.length g4.2)), (81, VP.of (q9.1)), (82, VP.of (q9.2.1))]) (fun q9 g4 => [(0, ⟨g4.1, .row 65 (q9.2.2.1 : List T_api_Table) g4.2⟩), (1, ⟨some pp0, .var (q9.2.2.2 : T_mcase_Codes)⟩)]) (key4, 4) (fun s1 r h g4 => ?_) fun g4 => ?_
    ·clear hl
     refine Qsr ?_
     refine Q2 r_lss ?_
     refine Qns ?_
     refine Qcd h (fun h=>?_) fun h=>?_
     ·refine Qkn ?_
      refine Wp.seq ?_
      refine Wp.block ?_
      refine Qsr ?_
      refine Qm ?_
      refine Qa ?_
      refine Qnx ?_
      obtain ⟨k1,hk1,h⟩:=Qbs h
      obtain ⟨y9,hy9,h⟩:=Qbs h
      obtain ⟨k2,hk2,h⟩:=Qbs h
      obtain ⟨k3,hk3,h⟩:=Qbs h
      obtain ⟨z12,hz12,h⟩:=Qbs h
      refine Qwl [0, 2, 3, 4, 5, 6, 7, 8, 9, 28, 44, 61, 80, 81, 82, 83] ?_
      refine Wp.drawD mixed (Hp 84 [] [] _ :: Hp 85 [] [] _ :: Hp 86 [] [] _ :: Hp 87 [] [] _ :: Hp 88 (2 :: 3 :: []) [] _ :: Hp 89 (4 :: []) [] _ :: Hp 90 [] [] _ :: ⟨some 91, (6 :: []), (1 :: []), (1 :: []), fun _ => VP.of (y9.1), fun hd _ => ⟨some pp0, .var (y9.2 : T_mcase_Codes)⟩⟩ :: Hp 92 (5 :: 7 :: []) [] _ :: Hp 93 (8 :: []) [] _ :: Hp 94 (0 :: 1 :: []) (0 :: []) _ :: Hp 95 (10 :: []) [] _ :: ⟨none, (9 :: 10 :: 11 :: []), (0 :: []), (0 :: []), fun _ => VP.any, fun hd _ => ⟨g4.1, .row 65 (z12 : List T_api_Table) g4.2⟩⟩ :: []) _ (0 :: 2 :: 3 :: 4 :: 5 :: 6 :: 7 :: 8 :: 9 :: 28 :: 44 :: 61 :: 80 :: 81 :: 82 :: 83 :: []) rfl rfl (by kernel_rfl) ⟨Dm, Dm, Dm, Dm, Dv fun hd E' L' hE hL => r_ias (k := k1) Tryz.underlying201 ty200 (look_t (hE _ _ rfl)) (look_t (hE _ _ rfl)) (idx_some hk1), D1 (r_loadp ty200), Dm, ?_, Dv fun hd E' L' hE hL => r_ias (k := k2) Tryz.underlying200 ty9 (look_t (hE _ _ rfl)) (look_t (hE _ _ rfl)) (idx_some hk2), D1 (r_loadp ty9), Dv fun hd E' L' hE hL => r_iaO (i := 0) (k := k3) (xs := (s1.2.1 : List T_api_Table)) Tryz.underlying28 ty65 (look_t (hE _ _ rfl)) (look_t (hE _ _ rfl)) (hL 0 _ rfl rfl) (idx_some hk3), D1 (r_fa fd65_7), ?_, trivial⟩ fun hd1 => ?_
      ·intro hd E' L' hE hL
       refine Sq.bring 1 (hL 1 _ rfl rfl) ?_
       refine Sq.callO (Lin := [⟨some pp0, .var (s1.2.2 : T_mcase_Codes)⟩]) (Lr := L'.eraseIdx 1) en32 (C_mcase_Codes_Next hy9) ⟨look_t (hE _ _ rfl), look_int 3, trivial⟩ rfl fun q10 => ?_
       refine Sq.nil ?_
       refine To.back 1 (hL 1 _ rfl rfl) ?_
       exact To.fin (gm []) rfl rfl
      ·intro hd E' L' hE hL
       refine Sq.storeR (i := 0) (k := k3) ((Lens.id T_api_Table).comp le_T_api_Table_Restriction) (v := (lget (lget [z8, z9, z10, z11] k1) k2 : ByteArray)) (r := (z12 : List T_api_Table)) ty9 (look_t (hE _ _ rfl)) (look_t (hE _ _ rfl)) (hL 0 _ rfl rfl) (idx_some hk3).1 rfl (some_in hz12) ?_
       refine Sq.nil ?_
       exact To.fin (gm []) rfl rfl
      refine To.eqL (L2 := [⟨g4.1, .row 65 (z12 : List T_api_Table) g4.2⟩, ⟨some pp0, .var (y9.2 : T_mcase_Codes)⟩, ⟨none, .row 86 (([] : List T_api_Key) : List T_api_Key) 0⟩, ⟨some p4, .var (({ m3.1 with f_Keys := m3.2 } : T_api_Table) : T_api_Table)⟩, ⟨none, .dead⟩, ⟨none, .row 86 (([] : List T_api_Key) : List T_api_Key) 0⟩, ⟨some p3, .var (({ m2.1 with f_Keys := m2.2 } : T_api_Table) : T_api_Table)⟩, ⟨none, .dead⟩, ⟨none, .row 86 (([] : List T_api_Key) : List T_api_Key) 0⟩, ⟨some p2, .var (({ m1.1 with f_Keys := m1.2 } : T_api_Table) : T_api_Table)⟩, ⟨none, .dead⟩, ⟨some p1, .var (z2 : T_api_Table)⟩]) rfl ?_
      refine To.relen (m := z12.length) 7 rfl (lset_len (some_in hz12)) ?_
      refine To.relen (m := z12.length) 84 rfl (lset_len (some_in hz12)) ?_
      refine Qtl [0, 2, 3, 4, 5, 6, 7, 8, 9, 28, 44, 61, 80, 81, 82, 83, 84, 85, 86, 87, 88, 89, 90, 91, 92, 93, 94, 95] ?_
      refine To.bnorm ?_
      refine To.next ?_
      refine Wp.reg ?_
      refine Q2 r_add ?_
      refine Qm ?_
      refine Sq.nil ?_
      obtain rfl:=some_in h
      exact Qrd (g4.1, g4.2) 0
     ·refine Wp.exit ?_
      refine To.exit ?_
      obtain rfl:=some_in h
      exact Qlv (g4.1, g4.2) 0
    ·clear hl
     refine To.bexit ?_
     refine To.next ?_
     refine Qsr ?_
     refine Qm ?_
     refine Qa ?_
     refine Qnx ?_
     refine Wp.ret ?_
     refine To.freezeL (α := T_api_Table) 0 [2, 7, 97] ⟨rfl, rfl, rfl, trivial⟩ rfl ?_
     refine To.bring 1 rfl ?_
     obtain rfl:=some_in h
     exact Qo1 ()
   ·have h := cond_t hc hm3
    refine Wp.reg ?_
    refine Q1 (r_fa fd65_2) ?_
    refine Qv (r_loadH (i := 2) (q := 0) (β := T_api_Table) (γ := T_api_Key) ty62 (look_t rfl) rfl rfl) ?_
    obtain ⟨z13,hz13,h⟩:=Qbs h
    refine Qn hz13 (r_build (b := { f_Name := ByteArray.mk #[103], f_Field := 9, f_Kind := 1 : T_api_Key }) rfl bu86 zr86 (.cons le_T_api_Key_Name rfl (look_str (ByteArray.mk #[103])) rfl (.cons le_T_api_Key_Field rfl (look_int 9) rfl (.cons le_T_api_Key_Kind rfl (look_int 1) rfl (.nil))))) ?_
    obtain ⟨z14,hz14,h⟩:=Qbs h
    refine Qn hz14 (r_build (b := { f_Name := ByteArray.mk #[100], f_Field := 7, f_Kind := 2 : T_api_Key }) rfl bu86 zr86 (.cons le_T_api_Key_Name rfl (look_str (ByteArray.mk #[100])) rfl (.cons le_T_api_Key_Field rfl (look_int 7) rfl (.cons le_T_api_Key_Kind rfl (look_int 2) rfl (.nil))))) ?_
    refine Qbl [z13, z14] Tryz.underlying62 ty86 zr86 ?_
    obtain ⟨y10,hy10,h⟩:=Qbs h
    refine Qap 3 Tryz.underlying62 ty86 zr86 hy10 fun key5 cap1 => ?_
    refine Q1 (r_fa fd65_2) ?_
    refine Sq.storeH (i := 2) (γ := T_api_Key) (b' := (({ ({ (default : T_api_Table) with f_ID := 4, f_Name := ByteArray.mk #[115, 112, 97, 110, 115], f_Actions := ([1, 3, 5] : List Int), f_Default := 3, f_DefaultArgs := [({ (default : T_api_Value) with f_Lo := 7#64 } : T_api_Value)], f_Size := w64 (3 + y7.1) } : T_api_Table) with f_Keys := [] } : T_api_Table) : T_api_Table)) (os' := [(2, slv key5 y10.length cap1)]) ((Lens.id T_api_Table).comp le_T_api_Table_Keys) ty62 (look_t rfl) (look_t rfl) slv_one rfl rfl rfl rfl ?_
    refine Sq.nil ?_
    obtain rfl:=some_in h
    exact Qmt 0 (hm (key5, cap1))
   ·have h := cond_f hc hm3
    refine Wp.skip ?_
    obtain rfl:=some_in h
    exact Qmt 0 (hm (key3, 1))
  ·have h := cond_t hc hm2
   refine Wp.reg ?_
   refine Q1 (r_fa fd65_2) ?_
   refine Qv (r_loadH (i := 2) (q := 0) (β := T_api_Table) (γ := T_api_Key) ty62 (look_t rfl) rfl rfl) ?_
   obtain ⟨z15,hz15,h⟩:=Qbs h
   refine Qn hz15 (r_build (b := { f_Name := ByteArray.mk #[98], f_Field := 5, f_Kind := 1 : T_api_Key }) rfl bu86 zr86 (.cons le_T_api_Key_Name rfl (look_str (ByteArray.mk #[98])) rfl (.cons le_T_api_Key_Field rfl (look_int 5) rfl (.cons le_T_api_Key_Kind rfl (look_int 1) rfl (.nil))))) ?_
   refine Qbl [z15] Tryz.underlying62 ty86 zr86 ?_
   obtain ⟨y11,hy11,h⟩:=Qbs h
   refine Qap 3 Tryz.underlying62 ty86 zr86 hy11 fun key6 cap2 => ?_
   refine Q1 (r_fa fd65_2) ?_
   refine Sq.storeH (i := 2) (γ := T_api_Key) (b' := (({ ({ (default : T_api_Table) with f_ID := 3, f_Name := ByteArray.mk #[97, 99, 108], f_Actions := ([1, 2, 3, 5, 6] : List Int), f_Default := 1, f_Size := w64 (4 + y5.1) } : T_api_Table) with f_Keys := [] } : T_api_Table) : T_api_Table)) (os' := [(2, slv key6 y11.length cap2)]) ((Lens.id T_api_Table).comp le_T_api_Table_Keys) ty62 (look_t rfl) (look_t rfl) slv_one rfl rfl rfl rfl ?_
   refine Sq.nil ?_
   obtain rfl:=some_in h
   exact Qmt 0 (hm (key6, cap2))
  ·have h := cond_f hc hm2
   refine Wp.skip ?_
   obtain rfl:=some_in h
   exact Qmt 0 (hm (key2, 2))
 ·have h := cond_t hc hm1
  refine Wp.reg ?_
  refine Q1 (r_fa fd65_2) ?_
  refine Qv (r_loadH (i := 2) (q := 0) (β := T_api_Table) (γ := T_api_Key) ty62 (look_t rfl) rfl rfl) ?_
  obtain ⟨z16,hz16,h⟩:=Qbs h
  refine Qn hz16 (r_build (b := { f_Name := ByteArray.mk #[109], f_Field := 3, f_Kind := 1 : T_api_Key }) rfl bu86 zr86 (.cons le_T_api_Key_Name rfl (look_str (ByteArray.mk #[109])) rfl (.cons le_T_api_Key_Field rfl (look_int 3) rfl (.cons le_T_api_Key_Kind rfl (look_int 1) rfl (.nil))))) ?_
  refine Qbl [z16] Tryz.underlying62 ty86 zr86 ?_
  obtain ⟨y12,hy12,h⟩:=Qbs h
  refine Qap 3 Tryz.underlying62 ty86 zr86 hy12 fun key7 cap3 => ?_
  refine Q1 (r_fa fd65_2) ?_
  refine Sq.storeH (i := 2) (γ := T_api_Key) (b' := (({ ({ (default : T_api_Table) with f_ID := 2, f_Name := ByteArray.mk #[114, 111, 117, 116, 101, 115], f_Actions := ([1, 2, 3, 4] : List Int), f_Default := 2, f_Size := w64 (3 + y3.1) } : T_api_Table) with f_Keys := [] } : T_api_Table) : T_api_Table)) (os' := [(2, slv key7 y12.length cap3)]) ((Lens.id T_api_Table).comp le_T_api_Table_Keys) ty62 (look_t rfl) (look_t rfl) slv_one rfl rfl rfl rfl ?_
  refine Sq.nil ?_
  obtain rfl:=some_in h
  exact Qmt 0 (hm (key7, cap3))
 ·have h := cond_f hc hm1
  refine Wp.skip ?_
  obtain rfl:=some_in h
  exact Qmt 0 (hm (key1, 1))
end Go.Proofs.YtmnggbjcnoffeaaGreat

namespace Go.Proofs.YtmnggbjcnoffeaaGreat
open Go Gv
set_option linter.unusedVariables false
set_option linter.unusedSimpArgs false
set_option maxRecDepth 100000
set_option maxHeartbeats 2000000
theorem C_mcase_Codes_roles {x0 : T_mcase_Codes} {x1 : List T_api_Table} {pp0 : Nat} {r : (List T_api_Role) × T_mcase_Codes} (h : L_mcase_Codes_roles x0 x1 = some r) : MeetsO Tryz.prog 71 [VP.eq (.pointer (some ⟨pp0, 0, none⟩)), VP.of (x1)] [⟨some pp0, .var (x0 : T_mcase_Codes)⟩] (δ := Unit) (fun d => VP.of (r.1)) (fun d => [⟨some pp0, .var (r.2 : T_mcase_Codes)⟩]) := by
 unfold L_mcase_Codes_roles at h
 refine MeetsO.of Tryz.func71 rfl Tryz.ntmps71 rfl fun W A => ?_
 refine Qsr ?_
 refine Qv (r_asg (look_nil (α := T_api_Role))) ?_
 refine Qnr ?_
 refine Qbl ([1, 2, 3, 4, 5, 6] : List Int) Tryz.underlying63 ty3 zr3 ?_
 refine Qv (r_buildX (b := ({ (default : T_api_Role) with f_ID := 1, f_Name := ByteArray.mk #[97, 108, 108], f_Actions := ([1, 2, 3, 4, 5, 6] : List Int), f_Quota := 40, f_Audit := true } : T_api_Role)) [2] zh204_2 rfl bu204 zr204 (.cons le_T_api_Role_ID rfl (look_int 1) rfl (by rfl) (.cons le_T_api_Role_Name rfl (look_str (ByteArray.mk #[97, 108, 108])) rfl (by rfl) (.cons le_T_api_Role_Actions rfl (look_t rfl) rfl (by rfl) (.cons le_T_api_Role_Quota rfl (look_int 40) rfl (by rfl) (.cons le_T_api_Role_Audit rfl (look_bool true) rfl (by rfl) (.nil))))))) ?_
 refine Sq.own (α := T_api_Grant) 207 ?_
 refine Sq.allocX (z := (default : T_api_Role)) [2] zh204_2 zr204 rfl fun p1 => ?_
 refine Sq.own (α := T_api_Grant) 207 ?_
 refine Sq.storeW (i := 1) ty204 (look_t rfl) (look_t rfl) rfl ?_
 refine Qnr ?_
 refine Qm ?_
 refine Sq.bring 3 rfl ?_
 obtain ⟨y1,hy1,h⟩:=Qbs h
 refine QcO 1 en32 (C_mcase_Codes_Next hy1) fun q1 => ?_
 refine Q2 r_add ?_
 refine Qbl ([1, 2, w64 (3 + y1.1)] : List Int) Tryz.underlying63 ty3 zr3 ?_
 refine Qm ?_
 refine Sq.bring 0 rfl ?_
 obtain ⟨y2,hy2,h⟩:=Qbs h
 refine QcO 1 en32 (C_mcase_Codes_Next hy2) fun q2 => ?_
 refine Q2 r_add ?_
 refine Qv (r_buildX (b := ({ (default : T_api_Role) with f_ID := 2, f_Name := ByteArray.mk #[115, 111, 109, 101], f_Actions := ([1, 2, w64 (3 + y1.1)] : List Int), f_Quota := w64 (1 + y2.1) } : T_api_Role)) [2] zh204_2 rfl bu204 zr204 (.cons le_T_api_Role_ID rfl (look_int 2) rfl (by rfl) (.cons le_T_api_Role_Name rfl (look_str (ByteArray.mk #[115, 111, 109, 101])) rfl (by rfl) (.cons le_T_api_Role_Actions rfl (look_t rfl) rfl (by rfl) (.cons le_T_api_Role_Quota rfl (look_t rfl) rfl (by rfl) (.nil)))))) ?_
 refine Sq.own (α := T_api_Grant) 207 ?_
 refine Sq.allocX (z := (default : T_api_Role)) [2] zh204_2 zr204 rfl fun p2 => ?_
 refine Sq.own (α := T_api_Grant) 207 ?_
 refine Sq.storeW (i := 1) ty204 (look_t rfl) (look_t rfl) rfl ?_
 refine Qnr ?_
 refine Qm ?_
 refine Sq.bring 3 rfl ?_
 obtain ⟨y3,hy3,h⟩:=Qbs h
 refine QcO 1 en32 (C_mcase_Codes_Next hy3) fun q3 => ?_
 refine Q2 r_add ?_
 refine Qbl [w64 (1 + y3.1)] Tryz.underlying63 ty3 zr3 ?_
 refine Qm ?_
 refine Sq.bring 0 rfl ?_
 obtain ⟨y4,hy4,h⟩:=Qbs h
 refine QcO 1 en32 (C_mcase_Codes_Next hy4) fun q4 => ?_
 refine Qv (r_buildX (b := ({ (default : T_api_Role) with f_ID := 7, f_Name := ByteArray.mk #[102, 101, 119], f_Actions := [w64 (1 + y3.1)], f_Quota := y4.1 } : T_api_Role)) [2] zh204_2 rfl bu204 zr204 (.cons le_T_api_Role_ID rfl (look_int 7) rfl (by rfl) (.cons le_T_api_Role_Name rfl (look_str (ByteArray.mk #[102, 101, 119])) rfl (by rfl) (.cons le_T_api_Role_Actions rfl (look_t rfl) rfl (by rfl) (.cons le_T_api_Role_Quota rfl (look_t rfl) rfl (by rfl) (.nil)))))) ?_
 refine Sq.own (α := T_api_Grant) 207 ?_
 refine Sq.allocX (z := (default : T_api_Role)) [2] zh204_2 zr204 rfl fun p3 => ?_
 refine Sq.own (α := T_api_Grant) 207 ?_
 refine Sq.storeW (i := 1) ty204 (look_t rfl) (look_t rfl) rfl ?_
 refine Qns ?_
 refine Qsr ?_
 refine Qm ?_
 refine Q1 (r_len Tryz.underlying28) ?_
 refine Qm ?_
 refine Qnx ?_
 refine Wp.block ?_
 obtain ⟨e1,hl,h⟩:=Qbs h
 refine Qlp (γ:=(Option Nat × Nat) × (Option Nat × Nat) × (Option Nat × Nat)) (δ:=(Option Nat × Nat) × (Option Nat × Nat) × (Option Nat × Nat)) hl [0, 1, 4, 5, 6, 7, 30, 31] (fun s1 g1 => [(32, VP.of (s1.1))]) (fun s1 g1 => [(1, ⟨some p3, .varX (s1.2.1 : T_api_Role) [(2, slv g1.1.1 s1.2.2.1.length g1.1.2)]⟩), (2, ⟨g1.1.1, .row 207 (s1.2.2.1 : List T_api_Grant) g1.1.2⟩), (3, ⟨some pp0, .var (s1.2.2.2.1 : T_mcase_Codes)⟩), (5, ⟨some p2, .varX (s1.2.2.2.2.1 : T_api_Role) [(2, slv g1.2.1.1 s1.2.2.2.2.2.1.length g1.2.1.2)]⟩), (6, ⟨g1.2.1.1, .row 207 (s1.2.2.2.2.2.1 : List T_api_Grant) g1.2.1.2⟩), (8, ⟨some p1, .varX (s1.2.2.2.2.2.2.1 : T_api_Role) [(2, slv g1.2.2.1 s1.2.2.2.2.2.2.2.length g1.2.2.2)]⟩), (9, ⟨g1.2.2.1, .row 207 (s1.2.2.2.2.2.2.2 : List T_api_Grant) g1.2.2.2⟩)]) (fun q5 => Exit.exit 0) (fun q5 g1 => [(32, VP.of (q5.1)), (33, VP.of (q5.2.1))]) (fun q5 g1 => [(1, ⟨some p3, .varX (q5.2.2.1 : T_api_Role) [(2, slv g1.1.1 q5.2.2.2.1.length g1.1.2)]⟩), (2, ⟨g1.1.1, .row 207 (q5.2.2.2.1 : List T_api_Grant) g1.1.2⟩), (3, ⟨some pp0, .var (q5.2.2.2.2.1 : T_mcase_Codes)⟩), (5, ⟨some p2, .varX (q5.2.2.2.2.2.1 : T_api_Role) [(2, slv g1.2.1.1 q5.2.2.2.2.2.2.1.length g1.2.1.2)]⟩), (6, ⟨g1.2.1.1, .row 207 (q5.2.2.2.2.2.2.1 : List T_api_Grant) g1.2.1.2⟩), (8, ⟨some p1, .varX (q5.2.2.2.2.2.2.2.1 : T_api_Role) [(2, slv g1.2.2.1 q5.2.2.2.2.2.2.2.2.length g1.2.2.2)]⟩), (9, ⟨g1.2.2.1, .row 207 (q5.2.2.2.2.2.2.2.2 : List T_api_Grant) g1.2.2.2⟩)]) ((none, 0), (none, 0), (none, 0)) (fun s1 r h g1 => ?_) fun g1 => ?_
 ·clear hl
  refine Qsr ?_
  refine Q2 r_lss ?_
  refine Qns ?_
  refine Qcd h (fun h=>?_) fun h=>?_
  ·refine Qkn ?_
   refine Wp.seq ?_
   refine Wp.block ?_
   refine Qsr ?_
   obtain ⟨k1,hk1,h⟩:=Qbs h
   refine Qix hk1 Tryz.underlying28 ty65 ?_
   refine Q1 (r_loadp ty65) ?_
   refine Qal zr65 fun p4 => ?_
   refine Qs0 0 ty65 ?_
   refine Qnr ?_
   refine Q1 (r_fa fd65_2) ?_
   refine Qld 0 le_T_api_Table_Keys ty62 ?_
   refine Q1 (r_len Tryz.underlying62) ?_
   obtain ⟨y5,hy5,h⟩:=Qbs h
   refine Sq.mks Tryz.underlying205 ty4 zr4 rfl (by kernel_rfl) (look_t rfl) (look_t rfl) hy5 rfl fun key1 => ?_
   refine Qa ?_
   refine Qnr ?_
   refine Q1 (r_fa fd65_2) ?_
   refine Qld 1 le_T_api_Table_Keys ty62 ?_
   refine Q1 (r_len Tryz.underlying62) ?_
   obtain ⟨y6,hy6,h⟩:=Qbs h
   refine Sq.mks Tryz.underlying205 ty4 zr4 rfl (by kernel_rfl) (look_t rfl) (look_t rfl) hy6 rfl fun key2 => ?_
   refine Qa ?_
   refine Qns ?_
   refine Qsr ?_
   refine Qm ?_
   refine Qv (r_lenO (i := 1) Tryz.underlying205 (look_t rfl) rfl rfl) ?_
   refine Qm ?_
   refine Qnx ?_
   refine Wp.block ?_
   obtain ⟨e2,hl,h⟩:=Qbs h
   refine Qlp (γ:=(Option Nat × Nat) × (Option Nat × Nat)) (δ:=(Option Nat × Nat) × (Option Nat × Nat)) hl [0, 1, 4, 5, 6, 7, 9, 30, 31, 32, 33, 45] (fun s2 g2 => [(10, VP.eq (slv g2.2.1 s2.2.2.1.length g2.2.2)), (11, VP.eq (slv g2.1.1 s2.2.1.length g2.1.2)), (46, VP.of (s2.1))]) (fun s2 g2 => [(0, ⟨g2.1.1, .row 4 (s2.2.1 : List Bool) g2.1.2⟩), (1, ⟨g2.2.1, .row 4 (s2.2.2.1 : List Bool) g2.2.2⟩), (6, ⟨some pp0, .var (s2.2.2.2 : T_mcase_Codes)⟩)]) (fun q6 => Exit.exit 2) (fun q6 g2 => [(10, VP.eq (slv g2.2.1 q6.2.2.2.1.length g2.2.2)), (11, VP.eq (slv g2.1.1 q6.2.2.1.length g2.1.2)), (46, VP.of (q6.1)), (47, VP.of (q6.2.1))]) (fun q6 g2 => [(0, ⟨g2.1.1, .row 4 (q6.2.2.1 : List Bool) g2.1.2⟩), (1, ⟨g2.2.1, .row 4 (q6.2.2.2.1 : List Bool) g2.2.2⟩), (6, ⟨some pp0, .var (q6.2.2.2.2 : T_mcase_Codes)⟩)]) ((key2, y6.length), (key1, y5.length)) (fun s2 r h g2 => ?_) fun g2 => ?_
   ·clear hl
    refine Qsr ?_
    refine Q2 r_lss ?_
    refine Qns ?_
    refine Qcd h (fun h=>?_) fun h=>?_
    ·refine Qkn ?_
     refine Wp.seq ?_
     refine Wp.block ?_
     refine Qsr ?_
     refine Qm ?_
     refine Qa ?_
     refine Qnx ?_
     refine Wp.reg ?_
     refine Qm ?_
     refine Qm ?_
     refine Qm ?_
     refine Qm ?_
     refine Qm ?_
     refine Sq.bring 6 rfl ?_
     obtain ⟨y7,hy7,h⟩:=Qbs h
     refine QcO 1 en32 (C_mcase_Codes_Next hy7) fun q7 => ?_
     refine Q2 r_gtr ?_
     obtain ⟨k2,hk2,h⟩:=Qbs h
     refine Qv (r_iaO (i := 2) (k := k2) (xs := (s2.2.2.1 : List Bool)) Tryz.underlying205 ty4 (look_t rfl) (look_t rfl) rfl (idx_some hk2)) ?_
     refine Sq.storeR (i := 2) (k := k2) (Lens.id Bool) (v := (true : Bool)) (r := (lset s2.2.2.1 k2 true : List Bool)) ty4 (look_t rfl) (look_bool true) rfl (idx_some hk2).1 rfl rfl ?_
     refine Sq.relen (m := (lset s2.2.2.1 k2 true).length) 10 rfl (lset_len rfl) ?_
     refine Sq.relen (m := (lset s2.2.2.1 k2 true).length) 49 rfl (lset_len rfl) ?_
     obtain ⟨k3,hk3,h⟩:=Qbs h
     refine Qv (r_iaO (i := 1) (k := k3) (xs := (s2.2.1 : List Bool)) Tryz.underlying205 ty4 (look_t rfl) (look_t rfl) rfl (idx_some hk3)) ?_
     refine Sq.storeR (i := 1) (k := k3) (Lens.id Bool) (v := (decide (y7.1 > 0) : Bool)) (r := (lset s2.2.1 k3 (decide (y7.1 > 0)) : List Bool)) ty4 (look_t rfl) (look_t rfl) rfl (idx_some hk3).1 rfl rfl ?_
     refine Sq.relen (m := (lset s2.2.1 k3 (decide (y7.1 > 0))).length) 11 rfl (lset_len rfl) ?_
     refine Sq.relen (m := (lset s2.2.1 k3 (decide (y7.1 > 0))).length) 51 rfl (lset_len rfl) ?_
     refine Sq.nil ?_
     refine To.bnorm ?_
     refine To.next ?_
     refine Wp.reg ?_
     refine Q2 r_add ?_
     refine Qm ?_
     refine Sq.nil ?_
     refine To.bring 6 rfl ?_
     refine To.bring 6 rfl ?_
     refine To.bring 6 rfl ?_
     refine To.bring 6 rfl ?_
     refine To.bring 6 rfl ?_
     refine To.bring 6 rfl ?_
     obtain rfl:=some_in h
     exact Qrd ((g2.1.1, g2.1.2), (g2.2.1, g2.2.2)) 0
    ·refine Wp.exit ?_
     refine To.exit ?_
     obtain rfl:=some_in h
     exact Qlv ((g2.1.1, g2.1.2), (g2.2.1, g2.2.2)) 0
   ·clear hl
    refine To.bexit ?_
    refine To.next ?_
    refine Qsr ?_
    refine Q1 (r_fa fd204_2) ?_
    refine Qv (r_loadH (i := 11) (q := 0) (β := T_api_Role) (γ := T_api_Grant) ty202 (look_t rfl) rfl rfl) ?_
    refine Q1 (r_fa fd65_0) ?_
    refine Qld 2 le_T_api_Table_ID ty3 ?_
    refine Qm ?_
    refine Sq.freezeL (α := Bool) 1 [63, 10] ⟨rfl, rfl, trivial⟩ rfl ?_
    obtain ⟨z1,hz1,h⟩:=Qbs h
    refine Qn hz1 (r_build (b := { f_Table := (lget x1 k1).f_ID, f_Read := true, f_Write := true, f_Keys := e2.2.2.2.1 : T_api_Grant }) rfl bu207 zr207 (.cons le_T_api_Grant_Table rfl (look_t rfl) rfl (.cons le_T_api_Grant_Read rfl (look_bool true) rfl (.cons le_T_api_Grant_Write rfl (look_bool true) rfl (.cons le_T_api_Grant_Keys rfl (look_t rfl) rfl (.nil)))))) ?_
    refine Qbl [z1] Tryz.underlying202 ty207 zr207 ?_
    obtain ⟨y8,hy8,h⟩:=Qbs h
    refine Qap 12 Tryz.underlying202 ty207 zr207 hy8 fun key3 cap1 => ?_
    refine Q1 (r_fa fd204_2) ?_
    refine Sq.storeH (i := 11) (γ := T_api_Grant) (b' := (({ s1.2.2.2.2.2.2.1 with f_Grants := [] } : T_api_Role) : T_api_Role)) (os' := [(2, slv key3 y8.length cap1)]) ((Lens.id T_api_Role).comp le_T_api_Role_Grants) ty202 (look_t rfl) (look_t rfl) slv_one rfl rfl rfl rfl ?_
    refine Qns ?_
    refine Qsr ?_
    refine Qm ?_
    refine Sq.bring 6 rfl ?_
    obtain ⟨y9,hy9,h⟩:=Qbs h
    refine QcO 1 en32 (C_mcase_Codes_Next hy9) fun q8 => ?_
    refine Q2 r_gtr ?_
    refine Qnx ?_
    refine Wp.freeze (α := Bool) 1 11 rfl rfl ?_
    obtain ⟨m1,hm1,h⟩:=Qbs h
    refine Qcm (γ:=(Option Nat × Nat)) [0, 1, 4, 5, 6, 7, 9, 10, 11, 30, 31, 32, 33, 45, 46, 47, 70] (fun g3 => []) (fun g3 => [(0, ⟨some pp0, .var (m1.1 : T_mcase_Codes)⟩), (8, ⟨some p2, .varX (m1.2.1 : T_api_Role) [(2, slv g3.1 m1.2.2.length g3.2)]⟩), (9, ⟨g3.1, .row 207 (m1.2.2 : List T_api_Grant) g3.2⟩)]) (fun g3 => ?_) (fun hm hc => ?_) fun hm hc => ?_
    ·clear hm1
     refine To.next ?_
     refine Qsr ?_
     refine Qm ?_
     refine Sq.bring 0 rfl ?_
     obtain ⟨y10,hy10,h⟩:=Qbs h
     refine QcO 1 en55 (C_mcase_Codes_Bool hy10) fun q9 => ?_
     refine Qnx ?_
     obtain ⟨m2,hm2,h⟩:=Qbs h
     refine Qcm (γ:=(Option Nat × Nat)) [0, 1, 4, 5, 6, 7, 9, 10, 11, 30, 31, 32, 33, 45, 46, 47, 70, 86] (fun g4 => []) (fun g4 => [(0, ⟨some pp0, .var (m2.1 : T_mcase_Codes)⟩), (5, ⟨some p3, .varX (m2.2.1 : T_api_Role) [(2, slv g4.1 m2.2.2.length g4.2)]⟩), (6, ⟨g4.1, .row 207 (m2.2.2 : List T_api_Grant) g4.2⟩)]) (fun g4 => ?_) (fun hm hc => ?_) fun hm hc => ?_
     ·clear hm2
      refine To.bnorm ?_
      refine To.next ?_
      refine Wp.reg ?_
      refine Q2 r_add ?_
      refine Qm ?_
      refine Sq.nil ?_
      refine To.bring 6 rfl ?_
      refine To.bring 6 rfl ?_
      refine To.bring 6 rfl ?_
      refine To.bring 6 rfl ?_
      refine To.bring 6 rfl ?_
      refine To.bring 6 rfl ?_
      obtain rfl:=some_in h
      exact Qrd ((g4.1, g4.2), (g3.1, g3.2), (key3, cap1)) 3
     ·have h := cond_t hc hm2
      obtain ⟨y11,hy11,h⟩:=Qbs h
      obtain ⟨y12,hy12,h⟩:=Qbs h
      obtain ⟨z2,hz2,h⟩:=Qbs h
      obtain ⟨y13,hy13,h⟩:=Qbs h
      refine Qwl [0, 1, 4, 5, 6, 7, 9, 10, 11, 30, 31, 32, 33, 45, 46, 47, 70, 85, 86] ?_
      refine Wp.drawD mixed (Hp 87 [] [] _ :: Hp 88 (0 :: []) (5 :: []) _ :: Hp 89 [] [] _ :: Hp 90 (2 :: []) (3 :: []) _ :: Hp 91 [] [] _ :: ⟨some 92, (4 :: []), (0 :: []), (0 :: []), fun _ => VP.of (y11.1), fun hd _ => ⟨some pp0, .var (y11.2 : T_mcase_Codes)⟩⟩ :: Hp 93 [] [] _ :: ⟨some 94, (5 :: 6 :: []), (0 :: []), (0 :: []), fun _ => VP.of (y12.1), fun hd _ => ⟨some pp0, .var (y12.2 : T_mcase_Codes)⟩⟩ :: Hp 95 [] [] _ :: Hp 96 (3 :: 5 :: 7 :: 8 :: []) [] _ :: Hp 97 (9 :: []) [] _ :: ⟨some 98, (1 :: 10 :: []), (6 :: []), (6 :: []), fun hd => VP.eq (slv (hd 11 0) y13.length ((hd 11 1).getD 0)), fun hd _ => ⟨(hd 11 0), .row 207 (y13 : List T_api_Grant) ((hd 11 1).getD 0)⟩⟩ :: Hp 99 [] [] _ :: ⟨none, (1 :: 11 :: 12 :: []), (5 :: []), (5 :: []), fun _ => VP.any, fun hd _ => ⟨some p3, .varX (({ s1.2.1 with f_Grants := [] } : T_api_Role) : T_api_Role) [(2, slv (hd 11 0) y13.length ((hd 11 1).getD 0))]⟩⟩ :: []) _ (0 :: 1 :: 4 :: 5 :: 6 :: 7 :: 9 :: 10 :: 11 :: 30 :: 31 :: 32 :: 33 :: 45 :: 46 :: 47 :: 70 :: 85 :: 86 :: []) rfl rfl (by kernel_rfl) ⟨D1 (r_fa fd204_2), Dv fun hd E' L' hE hL => r_loadH (i := 5) (q := 0) (β := T_api_Role) (γ := T_api_Grant) ty202 (look_t (hE _ _ rfl)) (hL 5 _ rfl rfl) rfl, D1 (r_fa fd65_0), Dld 3 le_T_api_Table_ID ty3, Dm, ?_, Dm, ?_, Dm, Dv fun hd E' L' hE hL => (r_build (b := { f_Table := (lget x1 k1).f_ID, f_Read := y11.1, f_Write := y12.1, f_Keys := e2.2.2.2.1 : T_api_Grant }) rfl bu207 zr207 (.cons le_T_api_Grant_Table rfl (look_t (hE _ _ rfl)) rfl (.cons le_T_api_Grant_Read rfl (look_t (hE _ _ rfl)) rfl (.cons le_T_api_Grant_Write rfl (look_t (hE _ _ rfl)) rfl (.cons le_T_api_Grant_Keys rfl (look_t (hE _ _ rfl)) rfl (.nil)))))).as (some_in hz2), Dv fun hd E' L' hE hL => r_bsl (r := [z2]) Tryz.underlying202 ty207 zr207 rfl rfl (.cons (by simp) (look_t (hE _ _ rfl)) (.nil)), ?_, D1 (r_fa fd204_2), ?_, trivial⟩ fun hd1 => ?_
      ·intro hd E' L' hE hL
       refine Sq.bring 0 (hL 0 _ rfl rfl) ?_
       refine Sq.callO (Lin := [⟨some pp0, .var (y10.2 : T_mcase_Codes)⟩]) (Lr := L'.eraseIdx 0) en55 (C_mcase_Codes_Bool hy11) ⟨look_t (hE _ _ rfl), trivial⟩ rfl fun q10 => ?_
       refine Sq.nil ?_
       refine To.back 0 (hL 0 _ rfl rfl) ?_
       exact To.fin (gm []) rfl rfl
      ·intro hd E' L' hE hL
       refine Sq.bring 0 (hL 0 _ rfl rfl) ?_
       refine Sq.callO (Lin := [⟨some pp0, .var (y11.2 : T_mcase_Codes)⟩]) (Lr := L'.eraseIdx 0) en55 (C_mcase_Codes_Bool hy12) ⟨look_t (hE _ _ rfl), trivial⟩ rfl fun q11 => ?_
       refine Sq.nil ?_
       refine To.back 0 (hL 0 _ rfl rfl) ?_
       exact To.fin (gm []) rfl rfl
      ·intro hd E' L' hE hL
       refine Sq.app (i := 6) Tryz.underlying202 ty207 zr207 (bytes := 40) (by kernel_rfl) (look_t (hE _ _ rfl)) (hL 6 _ rfl rfl) (look_t (hE _ _ rfl)) hy13 rfl fun key4 cap2 => ?_
       refine Sq.nil ?_
       exact To.fin (gm [key4, some cap2]) rfl rfl
      ·intro hd E' L' hE hL
       refine Sq.storeH (i := 5) (γ := T_api_Grant) (b' := (({ s1.2.1 with f_Grants := [] } : T_api_Role) : T_api_Role)) (os' := [(2, slv (hd 11 0) y13.length ((hd 11 1).getD 0))]) ((Lens.id T_api_Role).comp le_T_api_Role_Grants) ty202 (look_t (hE _ _ rfl)) (look_t (hE _ _ rfl)) slv_one (hL 5 _ rfl rfl) rfl rfl rfl ?_
       refine Sq.nil ?_
       exact To.fin (gm []) rfl rfl
      refine To.eqL (L2 := [⟨some pp0, .var (y12.2 : T_mcase_Codes)⟩, ⟨none, .dead⟩, ⟨none, .dead⟩, ⟨some p4, .var (lget x1 k1 : T_api_Table)⟩, ⟨none, .row 207 (([] : List T_api_Grant) : List T_api_Grant) 0⟩, ⟨some p3, .varX (({ s1.2.1 with f_Grants := [] } : T_api_Role) : T_api_Role) [(2, slv (hd1 11 0) y13.length ((hd1 11 1).getD 0))]⟩, ⟨(hd1 11 0), .row 207 (y13 : List T_api_Grant) ((hd1 11 1).getD 0)⟩, ⟨none, .row 207 (([] : List T_api_Grant) : List T_api_Grant) 0⟩, ⟨some p2, .varX (m1.2.1 : T_api_Role) [(2, slv g3.1 m1.2.2.length g3.2)]⟩, ⟨g3.1, .row 207 (m1.2.2 : List T_api_Grant) g3.2⟩, ⟨none, .row 207 (([] : List T_api_Grant) : List T_api_Grant) 0⟩, ⟨some p1, .varX (({ s1.2.2.2.2.2.2.1 with f_Grants := [] } : T_api_Role) : T_api_Role) [(2, slv key3 y8.length cap1)]⟩, ⟨key3, .row 207 (y8 : List T_api_Grant) cap1⟩]) rfl ?_
      refine Qtl [0, 1, 4, 5, 6, 7, 9, 10, 11, 30, 31, 32, 33, 45, 46, 47, 70, 85, 86, 87, 89, 90, 91, 92, 93, 94, 95, 96, 97, 98, 99] ?_
      obtain rfl:=some_in h
      exact Qmt 0 (hm ((hd1 11 0), ((hd1 11 1).getD 0)))
     ·have h := cond_f hc hm2
      refine Wp.skip ?_
      obtain rfl:=some_in h
      exact Qmt 0 (hm (g1.1.1, g1.1.2))
    ·have h := cond_t hc hm1
     obtain ⟨y14,hy14,h⟩:=Qbs h
     obtain ⟨y15,hy15,h⟩:=Qbs h
     obtain ⟨z3,hz3,h⟩:=Qbs h
     obtain ⟨y16,hy16,h⟩:=Qbs h
     refine Qwl [0, 1, 4, 5, 6, 7, 9, 10, 11, 30, 31, 32, 33, 45, 46, 47, 59, 61, 62, 63, 64, 65, 66, 67, 68, 69, 70] ?_
     refine Wp.drawD mixed (Hp 71 [] [] _ :: Hp 72 (0 :: []) (8 :: []) _ :: Hp 73 [] [] _ :: Hp 74 (2 :: []) (3 :: []) _ :: Hp 75 [] [] _ :: ⟨some 76, (4 :: []), (0 :: []), (0 :: []), fun _ => VP.of (y14.1), fun hd _ => ⟨some pp0, .var (y14.2 : T_mcase_Codes)⟩⟩ :: Hp 77 (5 :: []) [] _ :: Hp 78 [] [] _ :: ⟨some 79, (5 :: 7 :: []), (0 :: []), (0 :: []), fun _ => VP.of (y15.1), fun hd _ => ⟨some pp0, .var (y15.2 : T_mcase_Codes)⟩⟩ :: Hp 80 [] [] _ :: Hp 81 (3 :: 6 :: 8 :: 9 :: []) [] _ :: Hp 82 (10 :: []) [] _ :: ⟨some 83, (1 :: 11 :: []), (9 :: []), (9 :: []), fun hd => VP.eq (slv (hd 12 0) y16.length ((hd 12 1).getD 0)), fun hd _ => ⟨(hd 12 0), .row 207 (y16 : List T_api_Grant) ((hd 12 1).getD 0)⟩⟩ :: Hp 84 [] [] _ :: ⟨none, (1 :: 12 :: 13 :: []), (8 :: []), (8 :: []), fun _ => VP.any, fun hd _ => ⟨some p2, .varX (({ s1.2.2.2.2.1 with f_Grants := [] } : T_api_Role) : T_api_Role) [(2, slv (hd 12 0) y16.length ((hd 12 1).getD 0))]⟩⟩ :: []) _ (0 :: 1 :: 4 :: 5 :: 6 :: 7 :: 9 :: 10 :: 11 :: 30 :: 31 :: 32 :: 33 :: 45 :: 46 :: 47 :: 59 :: 61 :: 62 :: 63 :: 64 :: 65 :: 66 :: 67 :: 68 :: 69 :: 70 :: []) rfl rfl (by kernel_rfl) ⟨D1 (r_fa fd204_2), Dv fun hd E' L' hE hL => r_loadH (i := 8) (q := 0) (β := T_api_Role) (γ := T_api_Grant) ty202 (look_t (hE _ _ rfl)) (hL 8 _ rfl rfl) rfl, D1 (r_fa fd65_0), Dld 3 le_T_api_Table_ID ty3, Dm, ?_, D2 r_gtr, Dm, ?_, Dm, Dv fun hd E' L' hE hL => (r_build (b := { f_Table := (lget x1 k1).f_ID, f_Read := decide (y14.1 > 0), f_Write := y15.1, f_Keys := e2.2.2.1 : T_api_Grant }) rfl bu207 zr207 (.cons le_T_api_Grant_Table rfl (look_t (hE _ _ rfl)) rfl (.cons le_T_api_Grant_Read rfl (look_t (hE _ _ rfl)) rfl (.cons le_T_api_Grant_Write rfl (look_t (hE _ _ rfl)) rfl (.cons le_T_api_Grant_Keys rfl (look_t (hE _ _ rfl)) rfl (.nil)))))).as (some_in hz3), Dv fun hd E' L' hE hL => r_bsl (r := [z3]) Tryz.underlying202 ty207 zr207 rfl rfl (.cons (by simp) (look_t (hE _ _ rfl)) (.nil)), ?_, D1 (r_fa fd204_2), ?_, trivial⟩ fun hd2 => ?_
     ·intro hd E' L' hE hL
      refine Sq.bring 0 (hL 0 _ rfl rfl) ?_
      refine Sq.callO (Lin := [⟨some pp0, .var (y9.2 : T_mcase_Codes)⟩]) (Lr := L'.eraseIdx 0) en32 (C_mcase_Codes_Next hy14) ⟨look_t (hE _ _ rfl), look_int 4, trivial⟩ rfl fun q12 => ?_
      refine Sq.nil ?_
      refine To.back 0 (hL 0 _ rfl rfl) ?_
      exact To.fin (gm []) rfl rfl
     ·intro hd E' L' hE hL
      refine Sq.bring 0 (hL 0 _ rfl rfl) ?_
      refine Sq.callO (Lin := [⟨some pp0, .var (y14.2 : T_mcase_Codes)⟩]) (Lr := L'.eraseIdx 0) en55 (C_mcase_Codes_Bool hy15) ⟨look_t (hE _ _ rfl), trivial⟩ rfl fun q13 => ?_
      refine Sq.nil ?_
      refine To.back 0 (hL 0 _ rfl rfl) ?_
      exact To.fin (gm []) rfl rfl
     ·intro hd E' L' hE hL
      refine Sq.app (i := 9) Tryz.underlying202 ty207 zr207 (bytes := 40) (by kernel_rfl) (look_t (hE _ _ rfl)) (hL 9 _ rfl rfl) (look_t (hE _ _ rfl)) hy16 rfl fun key5 cap3 => ?_
      refine Sq.nil ?_
      exact To.fin (gm [key5, some cap3]) rfl rfl
     ·intro hd E' L' hE hL
      refine Sq.storeH (i := 8) (γ := T_api_Grant) (b' := (({ s1.2.2.2.2.1 with f_Grants := [] } : T_api_Role) : T_api_Role)) (os' := [(2, slv (hd 12 0) y16.length ((hd 12 1).getD 0))]) ((Lens.id T_api_Role).comp le_T_api_Role_Grants) ty202 (look_t (hE _ _ rfl)) (look_t (hE _ _ rfl)) slv_one (hL 8 _ rfl rfl) rfl rfl rfl ?_
      refine Sq.nil ?_
      exact To.fin (gm []) rfl rfl
     refine To.eqL (L2 := [⟨some pp0, .var (y15.2 : T_mcase_Codes)⟩, ⟨none, .dead⟩, ⟨none, .dead⟩, ⟨some p4, .var (lget x1 k1 : T_api_Table)⟩, ⟨none, .row 207 (([] : List T_api_Grant) : List T_api_Grant) 0⟩, ⟨some p3, .varX (s1.2.1 : T_api_Role) [(2, slv g1.1.1 s1.2.2.1.length g1.1.2)]⟩, ⟨g1.1.1, .row 207 (s1.2.2.1 : List T_api_Grant) g1.1.2⟩, ⟨none, .row 207 (([] : List T_api_Grant) : List T_api_Grant) 0⟩, ⟨some p2, .varX (({ s1.2.2.2.2.1 with f_Grants := [] } : T_api_Role) : T_api_Role) [(2, slv (hd2 12 0) y16.length ((hd2 12 1).getD 0))]⟩, ⟨(hd2 12 0), .row 207 (y16 : List T_api_Grant) ((hd2 12 1).getD 0)⟩, ⟨none, .row 207 (([] : List T_api_Grant) : List T_api_Grant) 0⟩, ⟨some p1, .varX (({ s1.2.2.2.2.2.2.1 with f_Grants := [] } : T_api_Role) : T_api_Role) [(2, slv key3 y8.length cap1)]⟩, ⟨key3, .row 207 (y8 : List T_api_Grant) cap1⟩]) rfl ?_
     refine Qtl [0, 1, 4, 5, 6, 7, 9, 10, 11, 30, 31, 32, 33, 45, 46, 47, 59, 61, 62, 63, 64, 65, 66, 67, 68, 69, 70, 71, 73, 74, 75, 76, 77, 78, 79, 80, 81, 82, 83, 84] ?_
     obtain rfl:=some_in h
     exact Qmt 0 (hm ((hd2 12 0), ((hd2 12 1).getD 0)))
    ·have h := cond_f hc hm1
     refine Wp.skip ?_
     obtain rfl:=some_in h
     exact Qmt 0 (hm (g1.2.1.1, g1.2.1.2))
  ·refine Wp.exit ?_
   refine To.exit ?_
   obtain rfl:=some_in h
   exact Qlv ((g1.1.1, g1.1.2), (g1.2.1.1, g1.2.1.2), (g1.2.2.1, g1.2.2.2)) 0
 ·clear hl
  refine To.bexit ?_
  refine To.next ?_
  refine Qsr ?_
  refine Sq.thaw (β := T_api_Role) (γ := T_api_Grant) (b' := (({ e1.2.2.2.2.2.2.2.1 with f_Grants := e1.2.2.2.2.2.2.2.2 } : T_api_Role) : T_api_Role)) ((Lens.id T_api_Role).comp le_T_api_Role_Grants) 8 9 0 rfl rfl rfl rfl rfl rfl ?_
  refine Sq.fromX 8 rfl ?_
  obtain ⟨z4,hz4,h⟩:=Qbs h
  refine Qn hz4 (r_load (i := 8) (Lens.id T_api_Role) (r := ({ e1.2.2.2.2.2.2.2.1 with f_Grants := e1.2.2.2.2.2.2.2.2 } : T_api_Role)) ty204 (look_t rfl) rfl rfl rfl) ?_
  refine Sq.thaw (β := T_api_Role) (γ := T_api_Grant) (b' := (({ e1.2.2.2.2.2.1 with f_Grants := e1.2.2.2.2.2.2.1 } : T_api_Role) : T_api_Role)) ((Lens.id T_api_Role).comp le_T_api_Role_Grants) 5 6 0 rfl rfl rfl rfl rfl rfl ?_
  refine Sq.fromX 5 rfl ?_
  refine Ql0 5 ty204 ?_
  refine Sq.thaw (β := T_api_Role) (γ := T_api_Grant) (b' := (({ e1.2.2.1 with f_Grants := e1.2.2.2.1 } : T_api_Role) : T_api_Role)) ((Lens.id T_api_Role).comp le_T_api_Role_Grants) 1 2 0 rfl rfl rfl rfl rfl rfl ?_
  refine Sq.fromX 1 rfl ?_
  refine Ql0 1 ty204 ?_
  obtain ⟨z5,hz5,h⟩:=Qbs h
  refine Qn hz5 (r_bsl (r := [z4, ({ e1.2.2.2.2.2.1 with f_Grants := e1.2.2.2.2.2.2.1 } : T_api_Role), ({ e1.2.2.1 with f_Grants := e1.2.2.2.1 } : T_api_Role)]) Tryz.underlying30 ty204 zr204 rfl rfl (.cons (by simp) (look_t rfl) (.cons (by simp) (look_t rfl) (.cons (by simp) (look_t rfl) (.nil))))) ?_
  refine Qa ?_
  refine Qnx ?_
  refine Wp.ret ?_
  refine To.bring 3 rfl ?_
  obtain rfl:=some_in h
  exact Qo1 ()
end Go.Proofs.YtmnggbjcnoffeaaGreat

