/-
  Printed by the decompiler (dec.py) out of the seat's translation. Each function meets its functional program. Conditions: none.
-/
import Derived.Test.YtodajdohokmjnaaDc6
import Derived.Test.YtodajdohokmjnaaDc8
namespace Go.Proofs.Ytodajdohokmjnaa
open Go Gv
set_option linter.unusedVariables false
set_option linter.unusedSimpArgs false
set_option maxRecDepth 100000
set_option maxHeartbeats 2000000 in
theorem C_mcase_Codes_actions {x0 : T_mcase_Codes} {pp0 : Nat} {r : (List T_api_Action) × T_mcase_Codes} (h : L_mcase_Codes_actions x0 = some r) : MeetsO Try.prog 51 [VP.eq (.pointer (some ⟨pp0, 0, none⟩))] [⟨some pp0, .var (x0 : T_mcase_Codes)⟩] (δ := Unit) (fun d => VP.of (r.1)) (fun d => [⟨some pp0, .var (r.2 : T_mcase_Codes)⟩]) := by
  unfold L_mcase_Codes_actions at h
  refine MeetsO.of Try.func51 rfl Try.ntmps51 rfl fun W A => ?_
  refine Wp.seq ?_
  refine Wp.reg ?_
  refine Sq.v (r_asg (look_nil (α := T_api_Action))) rfl rfl rfl ?_
  refine Sq.nil ?_
  refine To.next ?_
  refine Wp.seq ?_
  refine Wp.reg ?_
  refine Sq.v (r_build (b := ({ (default : T_api_Operand) with f_Kind := 3 } : T_api_Operand)) rfl bu200 zr200 (.cons le_T_api_Operand_Kind rfl (look_int 3) rfl (.nil))) rfl rfl rfl ?_
  refine Sq.alloc zr200 rfl fun p1 => ?_
  refine Sq.store (i := 0) (Lens.id T_api_Operand) (v := (({ (default : T_api_Operand) with f_Kind := 3 } : T_api_Operand) : T_api_Operand)) (b' := (({ (default : T_api_Operand) with f_Kind := 3 } : T_api_Operand) : T_api_Operand)) ty200 (look_t rfl) (look_t rfl) rfl rfl rfl ?_
  refine Sq.nil ?_
  refine To.next ?_
  refine Wp.seq ?_
  obtain ⟨z1, hz1, h⟩ := bind_some h
  obtain ⟨z2, hz2, h⟩ := bind_some h
  obtain ⟨z3, hz3, h⟩ := bind_some h
  obtain ⟨z4, hz4, h⟩ := bind_some h
  obtain ⟨z5, hz5, h⟩ := bind_some h
  obtain ⟨z6, hz6, h⟩ := bind_some h
  obtain ⟨z7, hz7, h⟩ := bind_some h
  obtain ⟨z8, hz8, h⟩ := bind_some h
  obtain ⟨z9, hz9, h⟩ := bind_some h
  obtain ⟨z10, hz10, h⟩ := bind_some h
  obtain ⟨z11, hz11, h⟩ := bind_some h
  obtain ⟨z12, hz12, h⟩ := bind_some h
  obtain ⟨z13, hz13, h⟩ := bind_some h
  obtain ⟨y1, hy1, h⟩ := bind_some h
  obtain ⟨z14, hz14, h⟩ := bind_some h
  obtain ⟨y2, hy2, h⟩ := bind_some h
  obtain ⟨z15, hz15, h⟩ := bind_some h
  obtain ⟨z16, hz16, h⟩ := bind_some h
  obtain ⟨z17, hz17, h⟩ := bind_some h
  refine Wp.keep 1 ?_
  refine Wp.le (E' := [(0, VP.eq (.pointer (some ⟨pp0, 0, none⟩))), (2, VP.of ([] : List T_api_Action)), (3, VP.eq (.pointer (some ⟨p1, 0, none⟩))), (5, VP.of ({ (default : T_api_Operand) with f_Kind := 3 } : T_api_Operand))]) (.same rfl (.same rfl (.same rfl (.same rfl .nil)))) ?_
  refine Wp.drawD mixed (⟨some 6, [], [], [], fun _ => VP.of (z1), fun _ _ => ⟨none, .dead⟩⟩ :: ⟨some 7, [], [], [], fun _ => VP.of ({ (default : T_api_Prim) with f_Op := 6 } : T_api_Prim), fun _ _ => ⟨none, .dead⟩⟩ :: ⟨some 8, (1 :: []), [], [], fun _ => VP.of ([({ (default : T_api_Prim) with f_Op := 6 } : T_api_Prim)]), fun _ _ => ⟨none, .dead⟩⟩ :: ⟨some 9, (2 :: []), [], [], fun _ => VP.of (z2), fun _ _ => ⟨none, .dead⟩⟩ :: ⟨some 10, [], [], [], fun _ => VP.of (z3), fun _ _ => ⟨none, .dead⟩⟩ :: ⟨some 11, (4 :: []), [], [], fun _ => VP.of ([z3]), fun _ _ => ⟨none, .dead⟩⟩ :: ⟨some 12, [], (0 :: []), [], fun _ => VP.of ({ (default : T_api_Operand) with f_Kind := 3 } : T_api_Operand), fun _ _ => ⟨none, .dead⟩⟩ :: ⟨some 13, (6 :: []), [], [], fun _ => VP.of (z4), fun _ _ => ⟨none, .dead⟩⟩ :: ⟨some 14, (7 :: []), [], [], fun _ => VP.of ([z4]), fun _ _ => ⟨none, .dead⟩⟩ :: ⟨some 15, (5 :: 8 :: []), [], [], fun _ => VP.of (z5), fun _ _ => ⟨none, .dead⟩⟩ :: ⟨some 16, [], [], [], fun _ => VP.of ({ f_Name := ByteArray.mk #[120], f_Bits := 4 : T_api_Param }), fun _ _ => ⟨none, .dead⟩⟩ :: ⟨some 17, (10 :: []), [], [], fun _ => VP.of ([{ f_Name := ByteArray.mk #[120], f_Bits := 4 : T_api_Param }]), fun _ _ => ⟨none, .dead⟩⟩ :: ⟨some 18, [], (0 :: []), [], fun _ => VP.of ({ (default : T_api_Operand) with f_Kind := 3 } : T_api_Operand), fun _ _ => ⟨none, .dead⟩⟩ :: ⟨some 19, (12 :: []), [], [], fun _ => VP.of (z6), fun _ _ => ⟨none, .dead⟩⟩ :: ⟨some 20, [], [], [], fun _ => VP.of (z7), fun _ _ => ⟨none, .dead⟩⟩ :: ⟨some 21, (14 :: []), [], [], fun _ => VP.of ({ f_Op := 2, f_Dst := 3, f_Src := z7 : T_api_Prim }), fun _ _ => ⟨none, .dead⟩⟩ :: ⟨some 22, (13 :: 15 :: []), [], [], fun _ => VP.of ([z6, { f_Op := 2, f_Dst := 3, f_Src := z7 : T_api_Prim }]), fun _ _ => ⟨none, .dead⟩⟩ :: ⟨some 23, (11 :: 16 :: []), [], [], fun _ => VP.of (z8), fun _ _ => ⟨none, .dead⟩⟩ :: ⟨some 24, [], [], [], fun _ => VP.of ({ f_Name := ByteArray.mk #[120], f_Bits := 4 : T_api_Param }), fun _ _ => ⟨none, .dead⟩⟩ :: ⟨some 25, [], [], [], fun _ => VP.of ({ f_Name := ByteArray.mk #[121], f_Bits := 12 : T_api_Param }), fun _ _ => ⟨none, .dead⟩⟩ :: ⟨some 26, (18 :: 19 :: []), [], [], fun _ => VP.of (z9), fun _ _ => ⟨none, .dead⟩⟩ :: ⟨some 27, [], [], [], fun _ => VP.of ({ (default : T_api_Prim) with f_Op := 4, f_Dst := 3 } : T_api_Prim), fun _ _ => ⟨none, .dead⟩⟩ :: ⟨some 28, [], (0 :: []), [], fun _ => VP.of ({ (default : T_api_Operand) with f_Kind := 3 } : T_api_Operand), fun _ _ => ⟨none, .dead⟩⟩ :: ⟨some 29, (22 :: []), [], [], fun _ => VP.of (z10), fun _ _ => ⟨none, .dead⟩⟩ :: ⟨some 30, [], [], [], fun _ => VP.of (z11), fun _ _ => ⟨none, .dead⟩⟩ :: ⟨some 31, (24 :: []), [], [], fun _ => VP.of ({ f_Op := 3, f_Dst := 8, f_Src := z11 : T_api_Prim }), fun _ _ => ⟨none, .dead⟩⟩ :: ⟨some 32, (21 :: 23 :: 25 :: []), [], [], fun _ => VP.of (z12), fun _ _ => ⟨none, .dead⟩⟩ :: ⟨some 33, (20 :: 26 :: []), [], [], fun _ => VP.of (z13), fun _ _ => ⟨none, .dead⟩⟩ :: ⟨some 34, [], [], [], fun _ => VP.eq (.pointer (some ⟨pp0, 0, none⟩)), fun _ _ => ⟨none, .dead⟩⟩ :: ⟨some 35, (28 :: []), (1 :: []), (1 :: []), fun _ => VP.of (y1.1), fun hd _ => ⟨some pp0, .var (y1.2 : T_mcase_Codes)⟩⟩ :: ⟨some 36, (29 :: []), [], [], fun _ => VP.of (w64 (2 + y1.1)), fun _ _ => ⟨none, .dead⟩⟩ :: ⟨some 37, (30 :: []), [], [], fun _ => VP.of (z14), fun _ _ => ⟨none, .dead⟩⟩ :: ⟨some 38, [], [], [], fun _ => VP.eq (.pointer (some ⟨pp0, 0, none⟩)), fun _ _ => ⟨none, .dead⟩⟩ :: ⟨some 39, (29 :: 32 :: []), (1 :: []), (1 :: []), fun _ => VP.of (y2.1), fun hd _ => ⟨some pp0, .var (y2.2 : T_mcase_Codes)⟩⟩ :: ⟨some 40, (33 :: []), [], [], fun _ => VP.of (BitVec.ofInt 64 y2.1), fun _ _ => ⟨none, .dead⟩⟩ :: ⟨some 41, (34 :: []), [], [], fun _ => VP.of (z15), fun _ _ => ⟨none, .dead⟩⟩ :: ⟨some 42, (35 :: []), [], [], fun _ => VP.of (z16), fun _ _ => ⟨none, .dead⟩⟩ :: ⟨some 43, (36 :: []), [], [], fun _ => VP.of ({ f_Op := 2, f_Dst := 6, f_Src := z16 : T_api_Prim }), fun _ _ => ⟨none, .dead⟩⟩ :: ⟨some 44, (31 :: 37 :: []), [], [], fun _ => VP.of ([z14, { f_Op := 2, f_Dst := 6, f_Src := z16 : T_api_Prim }]), fun _ _ => ⟨none, .dead⟩⟩ :: ⟨some 45, (38 :: []), [], [], fun _ => VP.of (z17), fun _ _ => ⟨none, .dead⟩⟩ :: ⟨some 46, (0 :: 3 :: 9 :: 17 :: 27 :: 39 :: []), (2 :: []), (2 :: []), fun hd => VP.eq (slv (hd 40 0) [z1, z2, z5, z8, z13, z17].length 6), fun hd _ => ⟨(hd 40 0), .row 168 ([z1, z2, z5, z8, z13, z17] : List T_api_Action) 6⟩⟩ :: ⟨some 4, (40 :: []), [], [], fun hd => VP.eq (slv (hd 40 0) [z1, z2, z5, z8, z13, z17].length 6), fun _ _ => ⟨none, .dead⟩⟩ :: []) ((some 6, [], [], []) :: (some 7, [], [], []) :: (some 8, (1 :: []), [], []) :: (some 9, (2 :: []), [], []) :: (some 10, [], [], []) :: (some 11, (4 :: []), [], []) :: (some 12, [], (0 :: []), []) :: (some 13, (6 :: []), [], []) :: (some 14, (7 :: []), [], []) :: (some 15, (5 :: 8 :: []), [], []) :: (some 16, [], [], []) :: (some 17, (10 :: []), [], []) :: (some 18, [], (0 :: []), []) :: (some 19, (12 :: []), [], []) :: (some 20, [], [], []) :: (some 21, (14 :: []), [], []) :: (some 22, (13 :: 15 :: []), [], []) :: (some 23, (11 :: 16 :: []), [], []) :: (some 24, [], [], []) :: (some 25, [], [], []) :: (some 26, (18 :: 19 :: []), [], []) :: (some 27, [], [], []) :: (some 28, [], (0 :: []), []) :: (some 29, (22 :: []), [], []) :: (some 30, [], [], []) :: (some 31, (24 :: []), [], []) :: (some 32, (21 :: 23 :: 25 :: []), [], []) :: (some 33, (20 :: 26 :: []), [], []) :: (some 34, [], [], []) :: (some 35, (28 :: []), (1 :: []), (1 :: [])) :: (some 36, (29 :: []), [], []) :: (some 37, (30 :: []), [], []) :: (some 38, [], [], []) :: (some 39, (29 :: 32 :: []), (1 :: []), (1 :: [])) :: (some 40, (33 :: []), [], []) :: (some 41, (34 :: []), [], []) :: (some 42, (35 :: []), [], []) :: (some 43, (36 :: []), [], []) :: (some 44, (31 :: 37 :: []), [], []) :: (some 45, (38 :: []), [], []) :: (some 46, (0 :: 3 :: 9 :: 17 :: 27 :: 39 :: []), (2 :: []), (2 :: [])) :: (some 4, (40 :: []), [], []) :: []) (0 :: 2 :: 3 :: 5 :: []) rfl rfl (by kernel_rfl) ⟨?_, ?_, ?_, ?_, ?_, ?_, ?_, ?_, ?_, ?_, ?_, ?_, ?_, ?_, ?_, ?_, ?_, ?_, ?_, ?_, ?_, ?_, ?_, ?_, ?_, ?_, ?_, ?_, ?_, ?_, ?_, ?_, ?_, ?_, ?_, ?_, ?_, ?_, ?_, ?_, ?_, ?_, trivial⟩ fun hd => ?_
  · exact hd_v rfl rfl rfl fun hd E' L' hE hL => (r_build (b := ({ (default : T_api_Action) with f_ID := 1, f_Name := ByteArray.mk #[110, 111, 112] } : T_api_Action)) rfl bu168 zr168 (.cons le_T_api_Action_ID rfl (look_int 1) rfl (.cons le_T_api_Action_Name rfl (look_str (ByteArray.mk #[110, 111, 112])) rfl (.nil)))).as (some_in hz1)
  · exact hd_v rfl rfl rfl fun hd E' L' hE hL => r_build (b := ({ (default : T_api_Prim) with f_Op := 6 } : T_api_Prim)) rfl bu202 zr202 (.cons le_T_api_Prim_Op rfl (look_int 6) rfl (.nil))
  · exact hd_v rfl rfl rfl fun hd E' L' hE hL => r_bsl (r := [({ (default : T_api_Prim) with f_Op := 6 } : T_api_Prim)]) Try.underlying166 ty202 zr202 rfl rfl (.cons (by simp) (look_t (hE _ _ rfl)) (.nil))
  · exact hd_v rfl rfl rfl fun hd E' L' hE hL => (r_build (b := ({ (default : T_api_Action) with f_ID := 2, f_Name := ByteArray.mk #[100, 114, 111, 112], f_Body := [({ (default : T_api_Prim) with f_Op := 6 } : T_api_Prim)] } : T_api_Action)) rfl bu168 zr168 (.cons le_T_api_Action_ID rfl (look_int 2) rfl (.cons le_T_api_Action_Name rfl (look_str (ByteArray.mk #[100, 114, 111, 112])) rfl (.cons le_T_api_Action_Body rfl (look_t (hE _ _ rfl)) rfl (.nil))))).as (some_in hz2)
  · exact hd_v rfl rfl rfl fun hd E' L' hE hL => (r_build (b := { f_Name := ByteArray.mk #[112, 111, 114, 116], f_Bits := 16 : T_api_Param }) rfl bu171 zr171 (.cons le_T_api_Param_Name rfl (look_str (ByteArray.mk #[112, 111, 114, 116])) rfl (.cons le_T_api_Param_Bits rfl (look_int 16) rfl (.nil)))).as (some_in hz3)
  · exact hd_v rfl rfl rfl fun hd E' L' hE hL => r_bsl (r := [z3]) Try.underlying165 ty171 zr171 rfl rfl (.cons (by simp) (look_t (hE _ _ rfl)) (.nil))
  · exact hd_v rfl rfl rfl fun hd E' L' hE hL => r_load (i := 0) (Lens.id T_api_Operand) (r := ({ (default : T_api_Operand) with f_Kind := 3 } : T_api_Operand)) ty200 (look_t (hE _ _ rfl)) (hL 0 _ rfl rfl) rfl rfl
  · exact hd_v rfl rfl rfl fun hd E' L' hE hL => (r_build (b := ({ (default : T_api_Prim) with f_Op := 7, f_Src := ({ (default : T_api_Operand) with f_Kind := 3 } : T_api_Operand) } : T_api_Prim)) rfl bu202 zr202 (.cons le_T_api_Prim_Op rfl (look_int 7) rfl (.cons le_T_api_Prim_Src rfl (look_t (hE _ _ rfl)) rfl (.nil)))).as (some_in hz4)
  · exact hd_v rfl rfl rfl fun hd E' L' hE hL => r_bsl (r := [z4]) Try.underlying166 ty202 zr202 rfl rfl (.cons (by simp) (look_t (hE _ _ rfl)) (.nil))
  · exact hd_v rfl rfl rfl fun hd E' L' hE hL => (r_build (b := ({ (default : T_api_Action) with f_ID := 3, f_Name := ByteArray.mk #[102, 111, 114, 119, 97, 114, 100], f_Params := [z3], f_Body := [z4] } : T_api_Action)) rfl bu168 zr168 (.cons le_T_api_Action_ID rfl (look_int 3) rfl (.cons le_T_api_Action_Name rfl (look_str (ByteArray.mk #[102, 111, 114, 119, 97, 114, 100])) rfl (.cons le_T_api_Action_Params rfl (look_t (hE _ _ rfl)) rfl (.cons le_T_api_Action_Body rfl (look_t (hE _ _ rfl)) rfl (.nil)))))).as (some_in hz5)
  · exact hd_v rfl rfl rfl fun hd E' L' hE hL => r_build (b := { f_Name := ByteArray.mk #[120], f_Bits := 4 : T_api_Param }) rfl bu171 zr171 (.cons le_T_api_Param_Name rfl (look_str (ByteArray.mk #[120])) rfl (.cons le_T_api_Param_Bits rfl (look_int 4) rfl (.nil)))
  · exact hd_v rfl rfl rfl fun hd E' L' hE hL => r_bsl (r := [{ f_Name := ByteArray.mk #[120], f_Bits := 4 : T_api_Param }]) Try.underlying165 ty171 zr171 rfl rfl (.cons (by simp) (look_t (hE _ _ rfl)) (.nil))
  · exact hd_v rfl rfl rfl fun hd E' L' hE hL => r_load (i := 0) (Lens.id T_api_Operand) (r := ({ (default : T_api_Operand) with f_Kind := 3 } : T_api_Operand)) ty200 (look_t (hE _ _ rfl)) (hL 0 _ rfl rfl) rfl rfl
  · exact hd_v rfl rfl rfl fun hd E' L' hE hL => (r_build (b := { f_Op := 1, f_Dst := 5, f_Src := ({ (default : T_api_Operand) with f_Kind := 3 } : T_api_Operand) : T_api_Prim }) rfl bu202 zr202 (.cons le_T_api_Prim_Op rfl (look_int 1) rfl (.cons le_T_api_Prim_Dst rfl (look_int 5) rfl (.cons le_T_api_Prim_Src rfl (look_t (hE _ _ rfl)) rfl (.nil))))).as (some_in hz6)
  · exact hd_v rfl rfl rfl fun hd E' L' hE hL => (r_build (b := ({ (default : T_api_Operand) with f_Kind := 2, f_N := 5 } : T_api_Operand)) rfl bu200 zr200 (.cons le_T_api_Operand_Kind rfl (look_int 2) rfl (.cons le_T_api_Operand_N rfl (look_int 5) rfl (.nil)))).as (some_in hz7)
  · exact hd_v rfl rfl rfl fun hd E' L' hE hL => r_build (b := { f_Op := 2, f_Dst := 3, f_Src := z7 : T_api_Prim }) rfl bu202 zr202 (.cons le_T_api_Prim_Op rfl (look_int 2) rfl (.cons le_T_api_Prim_Dst rfl (look_int 3) rfl (.cons le_T_api_Prim_Src rfl (look_t (hE _ _ rfl)) rfl (.nil))))
  · exact hd_v rfl rfl rfl fun hd E' L' hE hL => r_bsl (r := [z6, { f_Op := 2, f_Dst := 3, f_Src := z7 : T_api_Prim }]) Try.underlying166 ty202 zr202 rfl rfl (.cons (by simp) (look_t (hE _ _ rfl)) (.cons (by simp) (look_t (hE _ _ rfl)) (.nil)))
  · exact hd_v rfl rfl rfl fun hd E' L' hE hL => (r_build (b := ({ (default : T_api_Action) with f_ID := 4, f_Name := ByteArray.mk #[116, 97, 103], f_Params := [{ f_Name := ByteArray.mk #[120], f_Bits := 4 : T_api_Param }], f_Body := [z6, { f_Op := 2, f_Dst := 3, f_Src := z7 : T_api_Prim }] } : T_api_Action)) rfl bu168 zr168 (.cons le_T_api_Action_ID rfl (look_int 4) rfl (.cons le_T_api_Action_Name rfl (look_str (ByteArray.mk #[116, 97, 103])) rfl (.cons le_T_api_Action_Params rfl (look_t (hE _ _ rfl)) rfl (.cons le_T_api_Action_Body rfl (look_t (hE _ _ rfl)) rfl (.nil)))))).as (some_in hz8)
  · exact hd_v rfl rfl rfl fun hd E' L' hE hL => r_build (b := { f_Name := ByteArray.mk #[120], f_Bits := 4 : T_api_Param }) rfl bu171 zr171 (.cons le_T_api_Param_Name rfl (look_str (ByteArray.mk #[120])) rfl (.cons le_T_api_Param_Bits rfl (look_int 4) rfl (.nil)))
  · exact hd_v rfl rfl rfl fun hd E' L' hE hL => r_build (b := { f_Name := ByteArray.mk #[121], f_Bits := 12 : T_api_Param }) rfl bu171 zr171 (.cons le_T_api_Param_Name rfl (look_str (ByteArray.mk #[121])) rfl (.cons le_T_api_Param_Bits rfl (look_int 12) rfl (.nil)))
  · exact hd_v rfl rfl rfl fun hd E' L' hE hL => (r_bsl (r := [{ f_Name := ByteArray.mk #[120], f_Bits := 4 : T_api_Param }, { f_Name := ByteArray.mk #[121], f_Bits := 12 : T_api_Param }]) Try.underlying165 ty171 zr171 rfl rfl (.cons (by simp) (look_t (hE _ _ rfl)) (.cons (by simp) (look_t (hE _ _ rfl)) (.nil)))).as (some_in hz9)
  · exact hd_v rfl rfl rfl fun hd E' L' hE hL => r_build (b := ({ (default : T_api_Prim) with f_Op := 4, f_Dst := 3 } : T_api_Prim)) rfl bu202 zr202 (.cons le_T_api_Prim_Op rfl (look_int 4) rfl (.cons le_T_api_Prim_Dst rfl (look_int 3) rfl (.nil)))
  · exact hd_v rfl rfl rfl fun hd E' L' hE hL => r_load (i := 0) (Lens.id T_api_Operand) (r := ({ (default : T_api_Operand) with f_Kind := 3 } : T_api_Operand)) ty200 (look_t (hE _ _ rfl)) (hL 0 _ rfl rfl) rfl rfl
  · exact hd_v rfl rfl rfl fun hd E' L' hE hL => (r_build (b := { f_Op := 1, f_Dst := 9, f_Src := ({ (default : T_api_Operand) with f_Kind := 3 } : T_api_Operand) : T_api_Prim }) rfl bu202 zr202 (.cons le_T_api_Prim_Op rfl (look_int 1) rfl (.cons le_T_api_Prim_Dst rfl (look_int 9) rfl (.cons le_T_api_Prim_Src rfl (look_t (hE _ _ rfl)) rfl (.nil))))).as (some_in hz10)
  · exact hd_v rfl rfl rfl fun hd E' L' hE hL => (r_build (b := ({ (default : T_api_Operand) with f_Kind := 3, f_N := 1 } : T_api_Operand)) rfl bu200 zr200 (.cons le_T_api_Operand_Kind rfl (look_int 3) rfl (.cons le_T_api_Operand_N rfl (look_int 1) rfl (.nil)))).as (some_in hz11)
  · exact hd_v rfl rfl rfl fun hd E' L' hE hL => r_build (b := { f_Op := 3, f_Dst := 8, f_Src := z11 : T_api_Prim }) rfl bu202 zr202 (.cons le_T_api_Prim_Op rfl (look_int 3) rfl (.cons le_T_api_Prim_Dst rfl (look_int 8) rfl (.cons le_T_api_Prim_Src rfl (look_t (hE _ _ rfl)) rfl (.nil))))
  · exact hd_v rfl rfl rfl fun hd E' L' hE hL => (r_bsl (r := [({ (default : T_api_Prim) with f_Op := 4, f_Dst := 3 } : T_api_Prim), z10, { f_Op := 3, f_Dst := 8, f_Src := z11 : T_api_Prim }]) Try.underlying166 ty202 zr202 rfl rfl (.cons (by simp) (look_t (hE _ _ rfl)) (.cons (by simp) (look_t (hE _ _ rfl)) (.cons (by simp) (look_t (hE _ _ rfl)) (.nil))))).as (some_in hz12)
  · exact hd_v rfl rfl rfl fun hd E' L' hE hL => (r_build (b := ({ (default : T_api_Action) with f_ID := 5, f_Name := ByteArray.mk #[119, 114, 97, 112], f_Params := z9, f_Body := z12 } : T_api_Action)) rfl bu168 zr168 (.cons le_T_api_Action_ID rfl (look_int 5) rfl (.cons le_T_api_Action_Name rfl (look_str (ByteArray.mk #[119, 114, 97, 112])) rfl (.cons le_T_api_Action_Params rfl (look_t (hE _ _ rfl)) rfl (.cons le_T_api_Action_Body rfl (look_t (hE _ _ rfl)) rfl (.nil)))))).as (some_in hz13)
  · exact hd_v rfl rfl rfl fun hd E' L' hE hL => r_move (look_t (hE _ _ rfl))
  · intro hd E' L' hE hL
    refine Sq.bring 1 (hL 1 _ rfl rfl) ?_
    refine Sq.callO (Lin := [⟨some pp0, .var (x0 : T_mcase_Codes)⟩]) (Lr := L'.eraseIdx 1) en49 (C_mcase_Codes_Next hy1) ⟨look_t (hE _ _ rfl), look_int 2, trivial⟩ rfl fun q1 => ?_
    refine Sq.nil ?_
    refine To.back 1 (hL 1 _ rfl rfl) ?_
    exact To.fin (gm []) rfl rfl
  · exact hd_v rfl rfl rfl fun hd E' L' hE hL => r_add (look_int 2) (look_t (hE _ _ rfl))
  · exact hd_v rfl rfl rfl fun hd E' L' hE hL => (r_build (b := ({ (default : T_api_Prim) with f_Op := 5, f_Dst := w64 (2 + y1.1) } : T_api_Prim)) rfl bu202 zr202 (.cons le_T_api_Prim_Op rfl (look_int 5) rfl (.cons le_T_api_Prim_Dst rfl (look_t (hE _ _ rfl)) rfl (.nil)))).as (some_in hz14)
  · exact hd_v rfl rfl rfl fun hd E' L' hE hL => r_move (look_t (hE _ _ rfl))
  · intro hd E' L' hE hL
    refine Sq.bring 1 (hL 1 _ rfl rfl) ?_
    refine Sq.callO (Lin := [⟨some pp0, .var (y1.2 : T_mcase_Codes)⟩]) (Lr := L'.eraseIdx 1) en49 (C_mcase_Codes_Next hy2) ⟨look_t (hE _ _ rfl), look_int 256, trivial⟩ rfl fun q2 => ?_
    refine Sq.nil ?_
    refine To.back 1 (hL 1 _ rfl rfl) ?_
    exact To.fin (gm []) rfl rfl
  · exact hd_v rfl rfl rfl fun hd E' L' hE hL => r_ci64 Try.underlying3 Try.underlying45 (look_t (hE _ _ rfl))
  · exact hd_v rfl rfl rfl fun hd E' L' hE hL => (r_build (b := ({ (default : T_api_Value) with f_Lo := BitVec.ofInt 64 y2.1 } : T_api_Value)) rfl bu47 zr47 (.cons le_T_api_Value_Lo rfl (look_t (hE _ _ rfl)) rfl (.nil))).as (some_in hz15)
  · exact hd_v rfl rfl rfl fun hd E' L' hE hL => (r_build (b := ({ (default : T_api_Operand) with f_Kind := 1, f_Value := z15 } : T_api_Operand)) rfl bu200 zr200 (.cons le_T_api_Operand_Kind rfl (look_int 1) rfl (.cons le_T_api_Operand_Value rfl (look_t (hE _ _ rfl)) rfl (.nil)))).as (some_in hz16)
  · exact hd_v rfl rfl rfl fun hd E' L' hE hL => r_build (b := { f_Op := 2, f_Dst := 6, f_Src := z16 : T_api_Prim }) rfl bu202 zr202 (.cons le_T_api_Prim_Op rfl (look_int 2) rfl (.cons le_T_api_Prim_Dst rfl (look_int 6) rfl (.cons le_T_api_Prim_Src rfl (look_t (hE _ _ rfl)) rfl (.nil))))
  · exact hd_v rfl rfl rfl fun hd E' L' hE hL => r_bsl (r := [z14, { f_Op := 2, f_Dst := 6, f_Src := z16 : T_api_Prim }]) Try.underlying166 ty202 zr202 rfl rfl (.cons (by simp) (look_t (hE _ _ rfl)) (.cons (by simp) (look_t (hE _ _ rfl)) (.nil)))
  · exact hd_v rfl rfl rfl fun hd E' L' hE hL => (r_build (b := ({ (default : T_api_Action) with f_ID := 6, f_Name := ByteArray.mk #[115, 116, 114, 105, 112], f_Body := [z14, { f_Op := 2, f_Dst := 6, f_Src := z16 : T_api_Prim }] } : T_api_Action)) rfl bu168 zr168 (.cons le_T_api_Action_ID rfl (look_int 6) rfl (.cons le_T_api_Action_Name rfl (look_str (ByteArray.mk #[115, 116, 114, 105, 112])) rfl (.cons le_T_api_Action_Body rfl (look_t (hE _ _ rfl)) rfl (.nil))))).as (some_in hz17)
  · intro hd E' L' hE hL
    refine Sq.bslO (α := T_api_Action) (r := [z1, z2, z5, z8, z13, z17]) Try.underlying27 ty168 zr168 rfl rfl (.cons (by simp) (look_t (hE _ _ rfl)) (.cons (by simp) (look_t (hE _ _ rfl)) (.cons (by simp) (look_t (hE _ _ rfl)) (.cons (by simp) (look_t (hE _ _ rfl)) (.cons (by simp) (look_t (hE _ _ rfl)) (.cons (by simp) (look_t (hE _ _ rfl)) (.nil))))))) rfl fun key1 => ?_
    refine Sq.nil ?_
    refine To.place 2 (hL 2 _ rfl rfl) ?_
    exact To.fin (gm [key1]) rfl rfl
  · intro hd E' L' hE hL
    refine Sq.v (r_asg (look_t (hE _ _ rfl))) rfl rfl rfl ?_
    refine Sq.nil ?_
    exact To.fin (gm []) rfl rfl
  refine To.eqL (L2 := [⟨some p1, .var (({ (default : T_api_Operand) with f_Kind := 3 } : T_api_Operand) : T_api_Operand)⟩, ⟨some pp0, .var (y2.2 : T_mcase_Codes)⟩, ⟨(hd 40 0), .row 168 ([z1, z2, z5, z8, z13, z17] : List T_api_Action) 6⟩]) rfl ?_
  refine To.le (E' := [(0, VP.eq (.pointer (some ⟨pp0, 0, none⟩))), (2, VP.of ([] : List T_api_Action)), (3, VP.eq (.pointer (some ⟨p1, 0, none⟩))), (4, VP.eq (slv (hd 40 0) [z1, z2, z5, z8, z13, z17].length 6)), (5, VP.of ({ (default : T_api_Operand) with f_Kind := 3 } : T_api_Operand)), (6, VP.of (z1)), (7, VP.of ({ (default : T_api_Prim) with f_Op := 6 } : T_api_Prim)), (8, VP.of ([({ (default : T_api_Prim) with f_Op := 6 } : T_api_Prim)])), (9, VP.of (z2)), (10, VP.of (z3)), (11, VP.of ([z3])), (12, VP.of ({ (default : T_api_Operand) with f_Kind := 3 } : T_api_Operand)), (13, VP.of (z4)), (14, VP.of ([z4])), (15, VP.of (z5)), (16, VP.of ({ f_Name := ByteArray.mk #[120], f_Bits := 4 : T_api_Param })), (17, VP.of ([{ f_Name := ByteArray.mk #[120], f_Bits := 4 : T_api_Param }])), (18, VP.of ({ (default : T_api_Operand) with f_Kind := 3 } : T_api_Operand)), (19, VP.of (z6)), (20, VP.of (z7)), (21, VP.of ({ f_Op := 2, f_Dst := 3, f_Src := z7 : T_api_Prim })), (22, VP.of ([z6, { f_Op := 2, f_Dst := 3, f_Src := z7 : T_api_Prim }])), (23, VP.of (z8)), (24, VP.of ({ f_Name := ByteArray.mk #[120], f_Bits := 4 : T_api_Param })), (25, VP.of ({ f_Name := ByteArray.mk #[121], f_Bits := 12 : T_api_Param })), (26, VP.of (z9)), (27, VP.of ({ (default : T_api_Prim) with f_Op := 4, f_Dst := 3 } : T_api_Prim)), (28, VP.of ({ (default : T_api_Operand) with f_Kind := 3 } : T_api_Operand)), (29, VP.of (z10)), (30, VP.of (z11)), (31, VP.of ({ f_Op := 3, f_Dst := 8, f_Src := z11 : T_api_Prim })), (32, VP.of (z12)), (33, VP.of (z13)), (34, VP.eq (.pointer (some ⟨pp0, 0, none⟩))), (35, VP.of (y1.1)), (36, VP.of (w64 (2 + y1.1))), (37, VP.of (z14)), (38, VP.eq (.pointer (some ⟨pp0, 0, none⟩))), (39, VP.of (y2.1)), (40, VP.of (BitVec.ofInt 64 y2.1)), (41, VP.of (z15)), (42, VP.of (z16)), (43, VP.of ({ f_Op := 2, f_Dst := 6, f_Src := z16 : T_api_Prim })), (44, VP.of ([z14, { f_Op := 2, f_Dst := 6, f_Src := z16 : T_api_Prim }])), (45, VP.of (z17)), (46, VP.eq (slv (hd 40 0) [z1, z2, z5, z8, z13, z17].length 6))]) (.same rfl (.same rfl (.same rfl (.same rfl (.same rfl (.same rfl (.same rfl (.same rfl (.same rfl (.same rfl (.same rfl (.same rfl (.same rfl (.same rfl (.same rfl (.same rfl (.same rfl (.same rfl (.same rfl (.same rfl (.same rfl (.same rfl (.same rfl (.same rfl (.same rfl (.same rfl (.same rfl (.same rfl (.same rfl (.same rfl (.same rfl (.same rfl (.same rfl (.same rfl (.same rfl (.same rfl (.same rfl (.same rfl (.same rfl (.same rfl (.same rfl (.same rfl (.same rfl (.same rfl (.same rfl (.same rfl .nil)))))))))))))))))))))))))))))))))))))))))))))) ?_
  refine To.bring 2 rfl ?_
  refine To.next ?_
  refine Wp.seq ?_
  refine Wp.seq ?_
  refine Wp.reg ?_
  refine Sq.v (r_move (look_t rfl)) rfl rfl rfl ?_
  refine Sq.bring 2 rfl ?_
  obtain ⟨y3, hy3, h⟩ := bind_some h
  refine Sq.callO (Lin := [⟨some pp0, .var (y2.2 : T_mcase_Codes)⟩]) (Lr := [⟨(hd 40 0), .row 168 ([z1, z2, z5, z8, z13, z17] : List T_api_Action) 6⟩, ⟨some p1, .var (({ (default : T_api_Operand) with f_Kind := 3 } : T_api_Operand) : T_api_Operand)⟩]) en54 (C_mcase_Codes_Bool hy3) ⟨look_t rfl, trivial⟩ rfl fun q3 => ?_
  refine Sq.nil ?_
  refine To.next ?_
  obtain ⟨m1, hm1, h⟩ := bind_some h
  refine Wp.condM (γ := (Option Nat × Nat)) (fun g1 => [(0, VP.eq (.pointer (some ⟨pp0, 0, none⟩))), (2, VP.of ([] : List T_api_Action)), (3, VP.eq (.pointer (some ⟨p1, 0, none⟩))), (4, VP.eq (slv g1.1 m1.length g1.2)), (48, VP.of (y3.1))]) (fun g1 => [⟨some pp0, .var (y3.2 : T_mcase_Codes)⟩, ⟨g1.1, .row 168 (m1 : List T_api_Action) g1.2⟩, ⟨some p1, .var (({ (default : T_api_Operand) with f_Kind := 3 } : T_api_Operand) : T_api_Operand)⟩]) (look_t rfl) (fun g1 => ?_) (fun hm hc => ?_) (fun hm hc => ?_)
  · clear hm1
    refine To.next ?_
    refine Wp.seq ?_
    refine Wp.seq ?_
    refine Wp.reg ?_
    refine Sq.v (r_move (look_t rfl)) rfl rfl rfl ?_
    refine Sq.bring 0 rfl ?_
    obtain ⟨y4, hy4, h⟩ := bind_some h
    refine Sq.callO (Lin := [⟨some pp0, .var (y3.2 : T_mcase_Codes)⟩]) (Lr := [⟨g1.1, .row 168 (m1 : List T_api_Action) g1.2⟩, ⟨some p1, .var (({ (default : T_api_Operand) with f_Kind := 3 } : T_api_Operand) : T_api_Operand)⟩]) en54 (C_mcase_Codes_Bool hy4) ⟨look_t rfl, trivial⟩ rfl fun q4 => ?_
    refine Sq.nil ?_
    refine To.next ?_
    obtain ⟨m2, hm2, h⟩ := bind_some h
    refine Wp.condM (γ := (Option Nat × Nat)) (fun g2 => [(0, VP.eq (.pointer (some ⟨pp0, 0, none⟩))), (2, VP.of ([] : List T_api_Action)), (3, VP.eq (.pointer (some ⟨p1, 0, none⟩))), (4, VP.eq (slv g2.1 m2.length g2.2)), (48, VP.of (y3.1)), (53, VP.of (y4.1))]) (fun g2 => [⟨some pp0, .var (y4.2 : T_mcase_Codes)⟩, ⟨g2.1, .row 168 (m2 : List T_api_Action) g2.2⟩, ⟨some p1, .var (({ (default : T_api_Operand) with f_Kind := 3 } : T_api_Operand) : T_api_Operand)⟩]) (look_t rfl) (fun g2 => ?_) (fun hm hc => ?_) (fun hm hc => ?_)
    · clear hm2
      refine To.next ?_
      refine Wp.seq ?_
      refine Wp.reg ?_
      refine Sq.v (r_move (look_t rfl)) rfl rfl rfl ?_
      refine Sq.v (r_asg (look_t rfl)) rfl rfl rfl ?_
      refine Sq.nil ?_
      refine To.next ?_
      refine Wp.ret ?_
      refine To.freezeL (α := T_api_Action) 1 [2, 4, 57] ⟨rfl, rfl, rfl, trivial⟩ rfl ?_
      refine To.bring 0 rfl ?_
      replace h := some_in h
      subst h
      exact To.endO1 () (.cons_cons _ (List.nil_sublist _)) rfl rfl (rvo_t rfl)
    · have h := cond_t hc hm2
      refine Wp.reg ?_
      refine Sq.v (r_move (look_t rfl)) rfl rfl rfl ?_
      obtain ⟨k1, hk1, h⟩ := bind_some h
      refine Sq.v (r_iaO (i := 1) (k := k1) (xs := (m1 : List T_api_Action)) Try.underlying27 ty168 (look_t rfl) (look_int 4) rfl (idx_some hk1)) rfl rfl rfl ?_
      refine Sq.v (r_fa fd168_4 (look_t rfl)) rfl rfl rfl ?_
      obtain ⟨z18, hz18, h⟩ := bind_some h
      refine Sq.storeR (i := 1) (k := k1) ((Lens.id T_api_Action).comp le_T_api_Action_Restriction) (v := (ByteArray.mk #[120, 32, 60, 32, 121, 32, 124, 124, 32, 120, 32, 61, 61, 32, 49, 53] : ByteArray)) (r := (z18 : List T_api_Action)) ty9 (look_t rfl) (look_str (ByteArray.mk #[120, 32, 60, 32, 121, 32, 124, 124, 32, 120, 32, 61, 61, 32, 49, 53])) rfl (idx_some hk1).1 rfl (some_in hz18) ?_
      refine Sq.relen (m := z18.length) 4 rfl (lset_len (some_in hz18)) ?_
      refine Sq.relen (m := z18.length) 54 rfl (lset_len (some_in hz18)) ?_
      refine Sq.nil ?_
      replace h := some_in h
      subst h
      exact To.meet 0 rfl (.same rfl (.same rfl (.same rfl (.same rfl (.same rfl (.same rfl .nil)))))) (hm (g1.1, g1.2))
    · have h := cond_f hc hm2
      refine Wp.skip ?_
      replace h := some_in h
      subst h
      exact To.meet 0 rfl (.same rfl (.same rfl (.same rfl (.same rfl (.same rfl (.same rfl .nil)))))) (hm (g1.1, g1.2))
  · have h := cond_t hc hm1
    refine Wp.reg ?_
    refine Sq.v (r_move (look_t rfl)) rfl rfl rfl ?_
    obtain ⟨k2, hk2, h⟩ := bind_some h
    refine Sq.v (r_iaO (i := 1) (k := k2) (xs := ([z1, z2, z5, z8, z13, z17] : List T_api_Action)) Try.underlying27 ty168 (look_t rfl) (look_int 2) rfl (idx_some hk2)) rfl rfl rfl ?_
    refine Sq.v (r_fa fd168_4 (look_t rfl)) rfl rfl rfl ?_
    obtain ⟨z19, hz19, h⟩ := bind_some h
    refine Sq.storeR (i := 1) (k := k2) ((Lens.id T_api_Action).comp le_T_api_Action_Restriction) (v := (ByteArray.mk #[112, 111, 114, 116, 32, 33, 61, 32, 48] : ByteArray)) (r := (z19 : List T_api_Action)) ty9 (look_t rfl) (look_str (ByteArray.mk #[112, 111, 114, 116, 32, 33, 61, 32, 48])) rfl (idx_some hk2).1 rfl (some_in hz19) ?_
    refine Sq.relen (m := z19.length) 4 rfl (lset_len (some_in hz19)) ?_
    refine Sq.relen (m := z19.length) 46 rfl (lset_len (some_in hz19)) ?_
    refine Sq.relen (m := z19.length) 49 rfl (lset_len (some_in hz19)) ?_
    refine Sq.nil ?_
    replace h := some_in h
    subst h
    exact To.meet 0 rfl (.same rfl (.same rfl (.same rfl (.same rfl (.same rfl .nil))))) (hm ((hd 40 0), 6))
  · have h := cond_f hc hm1
    refine Wp.skip ?_
    replace h := some_in h
    subst h
    exact To.meet 0 rfl (.same rfl (.same rfl (.same rfl (.same rfl (.same rfl .nil))))) (hm ((hd 40 0), 6))
end Go.Proofs.Ytodajdohokmjnaa
