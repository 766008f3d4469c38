/-
  Each function of the translation as a functional program. Conditions: none.
-/
import Derived.Test.YtmlgdkccoomiaaaJt
namespace Go.Proofs.Ytmlgdkccoomiaaa
open Go Gv
set_option linter.unusedVariables false
set_option linter.unusedSimpArgs false
set_option maxRecDepth 100000
def L_mcase_New (x0 : List (BitVec 8)) (x1 : Int) : Option T_mcase_Codes :=
  (sliceM x0 0 (min (x0.length : Int) x1)).bind fun y1 =>
  some ({ (default : T_mcase_Codes) with f_l := y1 } : T_mcase_Codes)
def L_mcase_Codes_Left (x0 : T_mcase_Codes) : Option Bool :=
  some (decide (x0.f_at < (x0.f_l.length : Int)))
def L_mcase_Codes_Next (x0 : T_mcase_Codes) (x1 : Int) : Option (Int × T_mcase_Codes) :=
  (L_mcase_Codes_Left x0).bind fun y1 =>
  cond ((!y1) || (decide (x1 < 1))) (
    some (0, x0)) (
    (idx x0.f_l.length (w64 ((w64 (x0.f_at + 1)) - 1))).bind fun k1 =>
    (modM ((lget x0.f_l k1).toNat : Int) x1).bind fun y2 =>
    some (y2, ({ x0 with f_at := w64 (x0.f_at + 1) } : T_mcase_Codes)))
def L_mcase_Codes_Bool (x0 : T_mcase_Codes) : Option (Bool × T_mcase_Codes) :=
  (L_mcase_Codes_Next x0 2).bind fun y1 =>
  some (y1.1 == 1, y1.2)
def L_mcase_Codes_states (x0 : T_mcase_Codes) : Option ((List T_api_State) × T_mcase_Codes) :=
  (L_mcase_Codes_Next x0 4).bind fun y1 =>
  (idx (([0, 0, 65535, 3] : List Int).length) y1.1).bind fun k1 =>
  (some ({ f_Value := ({ (default : T_api_Value) with f_Lo := 1#64 } : T_api_Value), f_Mask := ({ (default : T_api_Value) with f_Lo := 15#64 } : T_api_Value), f_Next := 2 : T_api_Case })).bind fun z1 =>
  (some ({ f_Value := ({ (default : T_api_Value) with f_Lo := 2#64 } : T_api_Value), f_Mask := ({ (default : T_api_Value) with f_Lo := 3#64 } : T_api_Value), f_Next := 3 : T_api_Case })).bind fun z2 =>
  (L_mcase_Codes_Bool y1.2).bind fun y2 =>
  (cond y2.1 (
    (L_mcase_Codes_Next y2.2 2).bind fun y6 =>
    (some (({ (default : T_api_Value) with f_Lo := BitVec.ofInt 64 (w64 (8 * y6.1)) } : T_api_Value))).bind fun z7 =>
    (L_mcase_Codes_Next y6.2 4).bind fun y7 =>
    (idx (([0, 0, 65535, 3] : List Int).length) y7.1).bind fun k3 =>
    (some ({ f_Value := z7, f_Mask := ({ (default : T_api_Value) with f_Lo := 8#64 } : T_api_Value), f_Next := lget ([0, 0, 65535, 3] : List Int) k3 : T_api_Case })).bind fun z8 =>
    (appM 40 [z1, z2] [z8]).bind fun y8 =>
    some (y7.2, y8)) (
    some (y2.2, [z1, z2]))).bind fun m1 =>
  (L_mcase_Codes_Next m1.1 4).bind fun y3 =>
  (idx (([0, 0, 65535, 3] : List Int).length) y3.1).bind fun k2 =>
  (some (({ (default : T_api_State) with f_ID := 2, f_Header := 2, f_Default := lget ([0, 0, 65535, 3] : List Int) k2 } : T_api_State))).bind fun z3 =>
  (some (({ (default : T_api_State) with f_ID := 3, f_Header := 3, f_Select := 9, f_Default := 0 } : T_api_State))).bind fun z4 =>
  (L_mcase_Codes_Next y3.2 3).bind fun y4 =>
  (cond (y4.1 == 1) (
    (L_mcase_Codes_Next y4.2 3).bind fun y5 =>
    (some ({ f_Value := ({ (default : T_api_Value) with f_Lo := 5#64 } : T_api_Value), f_Mask := ({ (default : T_api_Value) with f_Lo := 15#64 } : T_api_Value), f_Next := w64 (1 + y5.1) : T_api_Case })).bind fun z6 =>
    some (y5.2, ({ z4 with f_Cases := [z6] } : T_api_State))) (
    some (y4.2, z4))).bind fun m2 =>
  (some (({ ({ (default : T_api_State) with f_ID := 1, f_Header := 1, f_Select := 4, f_Default := lget ([0, 0, 65535, 3] : List Int) k1 } : T_api_State) with f_Cases := m1.2 } : T_api_State))).bind fun z5 =>
  some ([z5, z3, m2.2], m2.1)
def L_mcase_Codes_actions (x0 : T_mcase_Codes) : Option ((List T_api_Action) × T_mcase_Codes) :=
  (some (({ (default : T_api_Action) with f_ID := 1, f_Name := ByteArray.mk #[110, 111, 112] } : T_api_Action))).bind fun z1 =>
  (some (({ (default : T_api_Action) with f_ID := 2, f_Name := ByteArray.mk #[100, 114, 111, 112], f_Body := [({ (default : T_api_Prim) with f_Op := 6 } : T_api_Prim)] } : T_api_Action))).bind fun z2 =>
  (some ({ f_Name := ByteArray.mk #[112, 111, 114, 116], f_Bits := 16 : T_api_Param })).bind fun z3 =>
  (some (({ (default : T_api_Prim) with f_Op := 7, f_Src := ({ (default : T_api_Operand) with f_Kind := 3 } : T_api_Operand) } : T_api_Prim))).bind fun z4 =>
  (some (({ (default : T_api_Action) with f_ID := 3, f_Name := ByteArray.mk #[102, 111, 114, 119, 97, 114, 100], f_Params := [z3], f_Body := [z4] } : T_api_Action))).bind fun z5 =>
  (some ({ f_Op := 1, f_Dst := 5, f_Src := ({ (default : T_api_Operand) with f_Kind := 3 } : T_api_Operand) : T_api_Prim })).bind fun z6 =>
  (some (({ (default : T_api_Operand) with f_Kind := 2, f_N := 5 } : T_api_Operand))).bind fun z7 =>
  (some (({ (default : T_api_Action) with f_ID := 4, f_Name := ByteArray.mk #[116, 97, 103], f_Params := [{ f_Name := ByteArray.mk #[120], f_Bits := 4 : T_api_Param }], f_Body := [z6, { f_Op := 2, f_Dst := 3, f_Src := z7 : T_api_Prim }] } : T_api_Action))).bind fun z8 =>
  (some ([{ f_Name := ByteArray.mk #[120], f_Bits := 4 : T_api_Param }, { f_Name := ByteArray.mk #[121], f_Bits := 12 : T_api_Param }])).bind fun z9 =>
  (some ({ f_Op := 1, f_Dst := 9, f_Src := ({ (default : T_api_Operand) with f_Kind := 3 } : T_api_Operand) : T_api_Prim })).bind fun z10 =>
  (some (({ (default : T_api_Operand) with f_Kind := 3, f_N := 1 } : T_api_Operand))).bind fun z11 =>
  (some ([({ (default : T_api_Prim) with f_Op := 4, f_Dst := 3 } : T_api_Prim), z10, { f_Op := 3, f_Dst := 8, f_Src := z11 : T_api_Prim }])).bind fun z12 =>
  (some (({ (default : T_api_Action) with f_ID := 5, f_Name := ByteArray.mk #[119, 114, 97, 112], f_Params := z9, f_Body := z12 } : T_api_Action))).bind fun z13 =>
  (L_mcase_Codes_Next x0 2).bind fun y1 =>
  (some (({ (default : T_api_Prim) with f_Op := 5, f_Dst := w64 (2 + y1.1) } : T_api_Prim))).bind fun z14 =>
  (L_mcase_Codes_Next y1.2 256).bind fun y2 =>
  (some (({ (default : T_api_Value) with f_Lo := BitVec.ofInt 64 y2.1 } : T_api_Value))).bind fun z15 =>
  (some (({ (default : T_api_Operand) with f_Kind := 1, f_Value := z15 } : T_api_Operand))).bind fun z16 =>
  (some (({ (default : T_api_Action) with f_ID := 6, f_Name := ByteArray.mk #[115, 116, 114, 105, 112], f_Body := [z14, { f_Op := 2, f_Dst := 6, f_Src := z16 : T_api_Prim }] } : T_api_Action))).bind fun z17 =>
  (L_mcase_Codes_Bool y2.2).bind fun y3 =>
  (cond y3.1 (
    (idx ([z1, z2, z5, z8, z13, z17].length) 2).bind fun k2 =>
    (some (lset [z1, z2, z5, z8, z13, z17] k2 ({ (lget [z1, z2, z5, z8, z13, z17] k2) with f_Restriction := ByteArray.mk #[112, 111, 114, 116, 32, 33, 61, 32, 48] } : T_api_Action))).bind fun z19 =>
    some z19) (
    some [z1, z2, z5, z8, z13, z17])).bind fun m1 =>
  (L_mcase_Codes_Bool y3.2).bind fun y4 =>
  (cond y4.1 (
    (idx m1.length 4).bind fun k1 =>
    (some (lset m1 k1 ({ (lget m1 k1) with f_Restriction := ByteArray.mk #[120, 32, 60, 32, 121, 32, 124, 124, 32, 120, 32, 61, 61, 32, 49, 53] } : T_api_Action))).bind fun z18 =>
    some z18) (
    some m1)).bind fun m2 =>
  some (m2, y4.2)
def L_mcase_Codes_tables (x0 : T_mcase_Codes) : Option ((List T_api_Table) × T_mcase_Codes) :=
  (some ({ f_Name := ByteArray.mk #[97], f_Field := 4, f_Kind := 1 : T_api_Key })).bind fun z1 =>
  (L_mcase_Codes_Next x0 2).bind fun y1 =>
  (L_mcase_Codes_Next y1.2 5).bind fun y2 =>
  (some (({ (default : T_api_Table) with f_ID := 1, f_Name := ByteArray.mk #[112, 111, 114, 116, 115], f_Keys := [z1], f_Actions := ([1, 2, 4] : List Int), f_Default := w64 (1 + y1.1), f_Size := w64 (2 + y2.1) } : T_api_Table))).bind fun z2 =>
  (some ({ f_Name := ByteArray.mk #[100], f_Field := 7, f_Kind := 2 : T_api_Key })).bind fun z3 =>
  (L_mcase_Codes_Next y2.2 6).bind fun y3 =>
  (L_mcase_Codes_Bool y3.2).bind fun y4 =>
  (cond y4.1 (
    (some ({ f_Name := ByteArray.mk #[109], f_Field := 3, f_Kind := 1 : T_api_Key })).bind fun z16 =>
    (appM 32 [z3] [z16]).bind fun y12 =>
    some (({ ({ (default : T_api_Table) with f_ID := 2, f_Name := ByteArray.mk #[114, 111, 117, 116, 101, 115], f_Actions := ([1, 2, 3, 4] : List Int), f_Default := 2, f_Size := w64 (3 + y3.1) } : T_api_Table) with f_Keys := [] } : T_api_Table), y12)) (
    some (({ (default : T_api_Table) with f_ID := 2, f_Name := ByteArray.mk #[114, 111, 117, 116, 101, 115], f_Actions := ([1, 2, 3, 4] : List Int), f_Default := 2, f_Size := w64 (3 + y3.1) } : T_api_Table), [z3]))).bind fun m1 =>
  (some ({ f_Name := ByteArray.mk #[101], f_Field := 6, f_Kind := 3 : T_api_Key })).bind fun z4 =>
  (some ({ f_Name := ByteArray.mk #[97], f_Field := 4, f_Kind := 3 : T_api_Key })).bind fun z5 =>
  (L_mcase_Codes_Next y4.2 6).bind fun y5 =>
  (L_mcase_Codes_Bool y5.2).bind fun y6 =>
  (cond y6.1 (
    (some ({ f_Name := ByteArray.mk #[98], f_Field := 5, f_Kind := 1 : T_api_Key })).bind fun z15 =>
    (appM 32 [z4, z5] [z15]).bind fun y11 =>
    some (({ ({ (default : T_api_Table) with f_ID := 3, f_Name := ByteArray.mk #[97, 99, 108], f_Actions := ([1, 2, 3, 5, 6] : List Int), f_Default := 1, f_Size := w64 (4 + y5.1) } : T_api_Table) with f_Keys := [] } : T_api_Table), y11)) (
    some (({ (default : T_api_Table) with f_ID := 3, f_Name := ByteArray.mk #[97, 99, 108], f_Actions := ([1, 2, 3, 5, 6] : List Int), f_Default := 1, f_Size := w64 (4 + y5.1) } : T_api_Table), [z4, z5]))).bind fun m2 =>
  (some ({ f_Name := ByteArray.mk #[102], f_Field := 8, f_Kind := 4 : T_api_Key })).bind fun z6 =>
  (L_mcase_Codes_Next y6.2 5).bind fun y7 =>
  (L_mcase_Codes_Bool y7.2).bind fun y8 =>
  (cond y8.1 (
    (some ({ f_Name := ByteArray.mk #[103], f_Field := 9, f_Kind := 1 : T_api_Key })).bind fun z13 =>
    (some ({ f_Name := ByteArray.mk #[100], f_Field := 7, f_Kind := 2 : T_api_Key })).bind fun z14 =>
    (appM 32 [z6] [z13, z14]).bind fun y10 =>
    some (({ ({ (default : T_api_Table) with f_ID := 4, f_Name := ByteArray.mk #[115, 112, 97, 110, 115], f_Actions := ([1, 3, 5] : List Int), f_Default := 3, f_DefaultArgs := [({ (default : T_api_Value) with f_Lo := 7#64 } : T_api_Value)], f_Size := w64 (3 + y7.1) } : T_api_Table) with f_Keys := [] } : T_api_Table), y10)) (
    some (({ (default : T_api_Table) with f_ID := 4, f_Name := ByteArray.mk #[115, 112, 97, 110, 115], f_Actions := ([1, 3, 5] : List Int), f_Default := 3, f_DefaultArgs := [({ (default : T_api_Value) with f_Lo := 7#64 } : T_api_Value)], f_Size := w64 (3 + y7.1) } : T_api_Table), [z6]))).bind fun m3 =>
  (some ([z2, ({ m1.1 with f_Keys := m1.2 } : T_api_Table), ({ m2.1 with f_Keys := m2.2 } : T_api_Table), ({ m3.1 with f_Keys := m3.2 } : T_api_Table)])).bind fun z7 =>
  (some ([ByteArray.mk #[], ByteArray.mk #[97, 32, 33, 61, 32, 48], ByteArray.mk #[97, 32, 60, 32, 49, 52, 32, 38, 38, 32, 97, 32, 33, 61, 32, 51]])).bind fun z8 =>
  (some ([ByteArray.mk #[], ByteArray.mk #[100, 58, 58, 112, 114, 101, 102, 105, 120, 95, 108, 101, 110, 103, 116, 104, 32, 62, 61, 32, 56], ByteArray.mk #[100, 58, 58, 112, 114, 101, 102, 105, 120, 95, 108, 101, 110, 103, 116, 104, 32, 61, 61, 32, 51, 50, 32, 45, 62, 32, 100, 58, 58, 118, 97, 108, 117, 101, 32, 62, 32, 48, 120, 102, 102]])).bind fun z9 =>
  (some ([ByteArray.mk #[], ByteArray.mk #[112, 114, 105, 111, 114, 105, 116, 121, 32, 60, 32, 49, 48, 48, 32, 38, 38, 32, 40, 101, 58, 58, 109, 97, 115, 107, 32, 33, 61, 32, 48, 32, 124, 124, 32, 97, 58, 58, 109, 97, 115, 107, 32, 33, 61, 32, 48, 41], ByteArray.mk #[101, 58, 58, 109, 97, 115, 107, 32, 61, 61, 32, 48, 32, 45, 62, 32, 112, 114, 105, 111, 114, 105, 116, 121, 32, 62, 32, 53]])).bind fun z10 =>
  (some ([ByteArray.mk #[], ByteArray.mk #[102, 58, 58, 104, 105, 103, 104, 32, 45, 32, 102, 58, 58, 108, 111, 119, 32, 60, 61, 32, 48, 120, 49, 48, 48], ByteArray.mk #[33, 40, 102, 58, 58, 108, 111, 119, 32, 61, 61, 32, 48, 32, 38, 38, 32, 102, 58, 58, 104, 105, 103, 104, 32, 62, 32, 49, 48, 48, 48, 41]])).bind fun z11 =>
  (loopM (σ := Int × (List T_api_Table) × T_mcase_Codes) (ε := (Int × Bool × (List T_api_Table) × T_mcase_Codes)) FUEL (fun s1 =>
    cond (decide (s1.1 < (z7.length : Int))) (
      (idx ([z8, z9, z10, z11].length) s1.1).bind fun k1 =>
      (L_mcase_Codes_Next s1.2.2 3).bind fun y9 =>
      (idx ((lget [z8, z9, z10, z11] k1).length) y9.1).bind fun k2 =>
      (idx s1.2.1.length s1.1).bind fun k3 =>
      (some (lset s1.2.1 k3 ({ (lget s1.2.1 k3) with f_Restriction := lget (lget [z8, z9, z10, z11] k1) k2 } : T_api_Table))).bind fun z12 =>
      some (.inl (w64 (s1.1 + 1), z12, y9.2))) (
      some (.inr (s1.1, decide (s1.1 < (z7.length : Int)), s1.2.1, s1.2.2)))) (0, z7, y8.2)).bind fun e1 =>
  some (e1.2.2.1, e1.2.2.2)
def L_mcase_Codes_roles (x0 : T_mcase_Codes) (x1 : List T_api_Table) : Option ((List T_api_Role) × T_mcase_Codes) :=
  (L_mcase_Codes_Next x0 3).bind fun y1 =>
  (L_mcase_Codes_Next y1.2 6).bind fun y2 =>
  (L_mcase_Codes_Next y2.2 6).bind fun y3 =>
  (L_mcase_Codes_Next y3.2 4).bind fun y4 =>
  (loopM (σ := Int × T_api_Role × (List T_api_Grant) × T_mcase_Codes × T_api_Role × (List T_api_Grant) × T_api_Role × (List T_api_Grant)) (ε := (Int × Bool × T_api_Role × (List T_api_Grant) × T_mcase_Codes × T_api_Role × (List T_api_Grant) × T_api_Role × (List T_api_Grant))) FUEL (fun s1 =>
    cond (decide (s1.1 < (x1.length : Int))) (
      (idx x1.length s1.1).bind fun k1 =>
      (mkM (α := Bool) 1 (((lget x1 k1).f_Keys).length : Int)).bind fun y5 =>
      (mkM (α := Bool) 1 (((lget x1 k1).f_Keys).length : Int)).bind fun y6 =>
      (loopM (σ := Int × (List Bool) × (List Bool) × T_mcase_Codes) (ε := (Int × Bool × (List Bool) × (List Bool) × T_mcase_Codes)) FUEL (fun s2 =>
        cond (decide (s2.1 < (y5.length : Int))) (
          (L_mcase_Codes_Next s2.2.2.2 4).bind fun y7 =>
          (idx s2.2.2.1.length s2.1).bind fun k2 =>
          (idx s2.2.1.length s2.1).bind fun k3 =>
          some (.inl (w64 (s2.1 + 1), lset s2.2.1 k3 (decide (y7.1 > 0)), lset s2.2.2.1 k2 true, y7.2))) (
          some (.inr (s2.1, decide (s2.1 < (y5.length : Int)), s2.2.1, s2.2.2.1, s2.2.2.2)))) (0, y6, y5, s1.2.2.2.1)).bind fun e2 =>
      (some ({ f_Table := (lget x1 k1).f_ID, f_Read := true, f_Write := true, f_Keys := e2.2.2.2.1 : T_api_Grant })).bind fun z1 =>
      (appM 40 s1.2.2.2.2.2.2.2 [z1]).bind fun y8 =>
      (L_mcase_Codes_Next e2.2.2.2.2 4).bind fun y9 =>
      (cond (decide (y9.1 > 0)) (
        (L_mcase_Codes_Next y9.2 4).bind fun y14 =>
        (L_mcase_Codes_Bool y14.2).bind fun y15 =>
        (some ({ f_Table := (lget x1 k1).f_ID, f_Read := decide (y14.1 > 0), f_Write := y15.1, f_Keys := e2.2.2.1 : T_api_Grant })).bind fun z3 =>
        (appM 40 s1.2.2.2.2.2.1 [z3]).bind fun y16 =>
        some (y15.2, ({ s1.2.2.2.2.1 with f_Grants := [] } : T_api_Role), y16)) (
        some (y9.2, s1.2.2.2.2.1, s1.2.2.2.2.2.1))).bind fun m1 =>
      (L_mcase_Codes_Bool m1.1).bind fun y10 =>
      (cond y10.1 (
        (L_mcase_Codes_Bool y10.2).bind fun y11 =>
        (L_mcase_Codes_Bool y11.2).bind fun y12 =>
        (some ({ f_Table := (lget x1 k1).f_ID, f_Read := y11.1, f_Write := y12.1, f_Keys := e2.2.2.2.1 : T_api_Grant })).bind fun z2 =>
        (appM 40 s1.2.2.1 [z2]).bind fun y13 =>
        some (y12.2, ({ s1.2.1 with f_Grants := [] } : T_api_Role), y13)) (
        some (y10.2, s1.2.1, s1.2.2.1))).bind fun m2 =>
      some (.inl (w64 (s1.1 + 1), m2.2.1, m2.2.2, m2.1, m1.2.1, m1.2.2, ({ s1.2.2.2.2.2.2.1 with f_Grants := [] } : T_api_Role), y8))) (
      some (.inr (s1.1, decide (s1.1 < (x1.length : Int)), s1.2.1, s1.2.2.1, s1.2.2.2.1, s1.2.2.2.2.1, s1.2.2.2.2.2.1, s1.2.2.2.2.2.2.1, s1.2.2.2.2.2.2.2)))) (0, ({ (default : T_api_Role) with f_ID := 7, f_Name := ByteArray.mk #[102, 101, 119], f_Actions := [w64 (1 + y3.1)], f_Quota := y4.1 } : T_api_Role), ([] : List T_api_Grant), y4.2, ({ (default : T_api_Role) with f_ID := 2, f_Name := ByteArray.mk #[115, 111, 109, 101], f_Actions := ([1, 2, w64 (3 + y1.1)] : List Int), f_Quota := w64 (1 + y2.1) } : T_api_Role), ([] : List T_api_Grant), ({ (default : T_api_Role) with f_ID := 1, f_Name := ByteArray.mk #[97, 108, 108], f_Actions := ([1, 2, 3, 4, 5, 6] : List Int), f_Quota := 40, f_Audit := true } : T_api_Role), ([] : List T_api_Grant))).bind fun e1 =>
  (some (({ e1.2.2.2.2.2.2.2.1 with f_Grants := e1.2.2.2.2.2.2.2.2 } : T_api_Role))).bind fun z4 =>
  (some ([z4, ({ e1.2.2.2.2.2.1 with f_Grants := e1.2.2.2.2.2.2.1 } : T_api_Role), ({ e1.2.2.1 with f_Grants := e1.2.2.2.1 } : T_api_Role)])).bind fun z5 =>
  some (z5, e1.2.2.2.2.1)
def L_mcase_Codes_Schema (x0 : T_mcase_Codes) : Option (T_api_Schema × T_mcase_Codes) :=
  (L_mcase_Codes_Next x0 8).bind fun y1 =>
  (L_mcase_Codes_Next y1.2 30).bind fun y2 =>
  (some ({ f_ID := 1, f_Name := ByteArray.mk #[105, 110, 103, 114, 101, 115, 115], f_Bits := 16 : T_api_Field })).bind fun z1 =>
  (some ({ f_ID := 2, f_Name := ByteArray.mk #[101, 103, 114, 101, 115, 115], f_Bits := 16 : T_api_Field })).bind fun z2 =>
  (some ({ f_ID := 3, f_Name := ByteArray.mk #[109, 101, 116, 97], f_Bits := 8 : T_api_Field })).bind fun z3 =>
  (some ({ f_ID := 6, f_Name := ByteArray.mk #[101], f_Bits := 8 : T_api_Field })).bind fun z4 =>
  (some ({ f_ID := 7, f_Name := ByteArray.mk #[100], f_Bits := 32 : T_api_Field })).bind fun z5 =>
  (some ({ f_ID := 8, f_Name := ByteArray.mk #[102], f_Bits := 12 : T_api_Field })).bind fun z6 =>
  (some ({ f_ID := 9, f_Name := ByteArray.mk #[103], f_Bits := 4 : T_api_Field })).bind fun z7 =>
  (some ([z1, z2, z3, { f_ID := 4, f_Name := ByteArray.mk #[97], f_Bits := 4 : T_api_Field }, { f_ID := 5, f_Name := ByteArray.mk #[98], f_Bits := 4 : T_api_Field }, z4, z5, z6, z7])).bind fun z8 =>
  (some (({ ({ (default : T_api_Schema) with f_MaxBatch := w64 (2 + y1.1), f_Budget := w64 (12 + y2.1) } : T_api_Schema) with f_Fields := z8 } : T_api_Schema))).bind fun z9 =>
  (some ({ f_ID := 1, f_Name := ByteArray.mk #[111, 110, 101], f_Fields := ([4, 5, 6] : List Int) : T_api_Header })).bind fun z10 =>
  (some ({ f_ID := 2, f_Name := ByteArray.mk #[116, 119, 111], f_Fields := ([7] : List Int) : T_api_Header })).bind fun z11 =>
  (some ({ f_ID := 3, f_Name := ByteArray.mk #[116, 104, 114, 101, 101], f_Fields := ([8, 9] : List Int) : T_api_Header })).bind fun z12 =>
  (L_mcase_Codes_states y2.2).bind fun y3 =>
  (L_mcase_Codes_actions y3.2).bind fun y4 =>
  (L_mcase_Codes_tables y4.2).bind fun y5 =>
  (some (({ ({ z9 with f_Headers := [z10, z11, z12] } : T_api_Schema) with f_States := y3.1 } : T_api_Schema))).bind fun z13 =>
  (some (({ ({ z13 with f_Actions := y4.1 } : T_api_Schema) with f_Tables := y5.1 } : T_api_Schema))).bind fun z14 =>
  (L_mcase_Codes_roles y5.2 z14.f_Tables).bind fun y6 =>
  (some ([{ f_Table := 1, f_Header := 1 : T_api_Stage }, { f_Table := 2, f_Header := 2 : T_api_Stage }, ({ (default : T_api_Stage) with f_Table := 3 } : T_api_Stage), { f_Table := 4, f_Header := 3 : T_api_Stage }])).bind fun z15 =>
  (L_mcase_Codes_Bool y6.2).bind fun y7 =>
  (cond y7.1 (
    (appM 16 z15 [({ (default : T_api_Stage) with f_Table := 1 } : T_api_Stage)]).bind fun y14 =>
    some y14) (
    some z15)).bind fun m1 =>
  (L_mcase_Codes_Bool y7.2).bind fun y8 =>
  (cond y8.1 (
    (some (({ (default : T_api_Ref) with f_Table := 2, f_Action := 4, f_ToTable := 1 } : T_api_Ref))).bind fun z20 =>
    (appM 48 ([] : List T_api_Ref) [z20]).bind fun y13 =>
    some (({ ({ ({ z14 with f_Roles := y6.1 } : T_api_Schema) with f_Stages := [] } : T_api_Schema) with f_Refs := [] } : T_api_Schema), y13)) (
    some (({ ({ z14 with f_Roles := y6.1 } : T_api_Schema) with f_Stages := [] } : T_api_Schema), ([] : List T_api_Ref)))).bind fun m2 =>
  (L_mcase_Codes_Bool y8.2).bind fun y9 =>
  (condM y9.1 true (idx m2.1.f_Tables.length 2)).bind fun k1 =>
  (cond (y9.1 && ((((lget m2.1.f_Tables k1).f_Keys).length : Int) == 3)) (
    (some (({ (default : T_api_Ref) with f_Table := 3, f_Key := 2, f_ToTable := 1 } : T_api_Ref))).bind fun z19 =>
    (appM 48 m2.2 [z19]).bind fun y12 =>
    some (({ m2.1 with f_Refs := [] } : T_api_Schema), y12)) (
    some (m2.1, m2.2))).bind fun m3 =>
  (L_mcase_Codes_Bool y9.2).bind fun y10 =>
  (condM y10.1 true (idx m3.1.f_Tables.length 3)).bind fun k2 =>
  (cond (y10.1 && ((((lget m3.1.f_Tables k2).f_Keys).length : Int) == 3)) (
    (some (({ (default : T_api_Ref) with f_Table := 4, f_Key := 1, f_ToTable := 1 } : T_api_Ref))).bind fun z17 =>
    (some (({ (default : T_api_Ref) with f_Table := 4, f_Action := 5, f_ToTable := 1 } : T_api_Ref))).bind fun z18 =>
    (appM 48 m3.2 [z17, z18]).bind fun y11 =>
    some (({ m3.1 with f_Refs := [] } : T_api_Schema), y11)) (
    some (m3.1, m3.2))).bind fun m4 =>
  (some (({ ({ m4.1 with f_Stages := m1 } : T_api_Schema) with f_Refs := m4.2 } : T_api_Schema))).bind fun z16 =>
  some (z16, y10.2)
def L_ordered_List_matching (x1 : Vector T_api_Value 4) : Option (Vector T_api_Value 4) :=
  some x1
def L_check_TableOf_fn1 (x0 : T_api_Table) (x1 : Int) : Option Bool :=
  some (x0.f_ID == x1)
def L_slices_IndexFunc_api_Table (x0 : List T_api_Table) (x1 : T_api_Table → Option Bool) : Option Int :=
  (loopM (σ := Int) (ε := (Int × Bool) ⊕ (Int × Int × Int × Bool × Bool)) FUEL (fun s1 =>
    cond (decide (s1 < (x0.length : Int))) (
      (idx x0.length s1).bind fun k1 =>
      (x1 (lget x0 k1)).bind fun y1 =>
      cond y1 (
        some (.inr (Sum.inr (s1, s1, s1, decide (s1 < (x0.length : Int)), y1)))) (
        some (.inl (w64 (s1 + 1))))) (
      some (.inr (Sum.inl (s1, decide (s1 < (x0.length : Int))))))) 0).bind fun e1 =>
    Sum.elim (fun e1 =>
      some (-1)) (fun e1 =>
    some e1.1) e1
def L_check_TableOf (x0 : T_api_Schema) (x1 : Int) : Option Int :=
  (L_slices_IndexFunc_api_Table x0.f_Tables (fun a0 => L_check_TableOf_fn1 a0 x1)).bind fun y1 =>
  some y1
def L_entry_table (x0 : T_api_Schema) (x1 : T_api_Entry) : Option (T_api_Table × Bool) :=
  (L_check_TableOf x0 x1.f_Table).bind fun y1 =>
  cond (decide (y1 < 0)) (
    some ((default : T_api_Table), false)) (
    (idx x0.f_Tables.length y1).bind fun k1 =>
    some (lget x0.f_Tables k1, true))
def L_check_FieldOf_fn1 (x0 : T_api_Field) (x1 : Int) : Option Bool :=
  some (x0.f_ID == x1)
def L_slices_IndexFunc_api_Field (x0 : List T_api_Field) (x1 : T_api_Field → Option Bool) : Option Int :=
  (loopM (σ := Int) (ε := (Int × Bool) ⊕ (Int × Int × Int × Bool × Bool)) FUEL (fun s1 =>
    cond (decide (s1 < (x0.length : Int))) (
      (idx x0.length s1).bind fun k1 =>
      (x1 (lget x0 k1)).bind fun y1 =>
      cond y1 (
        some (.inr (Sum.inr (s1, s1, s1, decide (s1 < (x0.length : Int)), y1)))) (
        some (.inl (w64 (s1 + 1))))) (
      some (.inr (Sum.inl (s1, decide (s1 < (x0.length : Int))))))) 0).bind fun e1 =>
    Sum.elim (fun e1 =>
      some (-1)) (fun e1 =>
    some e1.1) e1
def L_check_FieldOf (x0 : T_api_Schema) (x1 : Int) : Option Int :=
  (L_slices_IndexFunc_api_Field x0.f_Fields (fun a0 => L_check_FieldOf_fn1 a0 x1)).bind fun y1 =>
  some y1
def L_entry_bitsOf (x0 : T_api_Schema) (x1 : T_api_Key) : Option Int :=
  (L_check_FieldOf x0 x1.f_Field).bind fun y1 =>
  cond (decide (y1 < 0)) (
    some 0) (
    (idx x0.f_Fields.length y1).bind fun k1 =>
    some ((lget x0.f_Fields k1).f_Bits))
def L_value_within (x0 : Int) : Option Int :=
  some (min (max 0 x0) 128)
def L_value_Right (x0 : T_api_Value) (x1 : Int) : Option T_api_Value :=
  cond (decide (x1 ≤ 0)) (
    some x0) (
    cond (decide (x1 ≥ 64)) (
      (some (({ (default : T_api_Value) with f_Lo := x0.f_Hi >>> (BitVec.ofInt 64 (w64 (x1 - 64))).toNat } : T_api_Value))).bind fun z1 =>
      some z1) (
      (some ((x0.f_Lo >>> (BitVec.ofInt 64 x1).toNat) ||| (x0.f_Hi <<< (BitVec.ofInt 64 (w64 (64 - x1))).toNat))).bind fun z2 =>
      (some ({ f_Hi := x0.f_Hi >>> (BitVec.ofInt 64 x1).toNat, f_Lo := z2 : T_api_Value })).bind fun z3 =>
      some z3))
def L_value_Ones (x0 : Int) : Option T_api_Value :=
  (some ({ f_Hi := 18446744073709551615#64, f_Lo := 18446744073709551615#64 : T_api_Value })).bind fun z1 =>
  (L_value_within x0).bind fun y1 =>
  (L_value_Right z1 (w64 (128 - y1))).bind fun y2 =>
  some y2
def L_value_Xor (x0 : T_api_Value) (x1 : T_api_Value) : Option T_api_Value :=
  (some ({ f_Hi := x0.f_Hi ^^^ x1.f_Hi, f_Lo := x0.f_Lo ^^^ x1.f_Lo : T_api_Value })).bind fun z1 =>
  some z1
def L_value_Leading (x0 : Int) (x1 : Int) : Option T_api_Value :=
  (L_value_within x0).bind fun y1 =>
  (L_value_Ones y1).bind fun y2 =>
  (L_value_Ones (w64 (y1 - (min (max 0 x1) y1)))).bind fun y3 =>
  (L_value_Xor y2 y3).bind fun y4 =>
  some y4
def L_value_And (x0 : T_api_Value) (x1 : T_api_Value) : Option T_api_Value :=
  (some ({ f_Hi := x0.f_Hi &&& x1.f_Hi, f_Lo := x0.f_Lo &&& x1.f_Lo : T_api_Value })).bind fun z1 =>
  some z1
def L_value_Compare (x0 : T_api_Value) (x1 : T_api_Value) : Option Int :=
  cond (decide (x0 = x1)) (
    some 0) (
    (some ((decide (x0.f_Hi < x1.f_Hi)) || ((x0.f_Hi == x1.f_Hi) && (decide (x0.f_Lo < x1.f_Lo))))).bind fun z1 =>
    cond z1 (
      some (-1)) (
      some 1))
def L_entry_Covers (x0 : T_api_Match) (x1 : Int) (x2 : Int) (x3 : T_api_Value) : Option Bool :=
  cond (!x0.f_Present) (
    some ((decide (x1 ≥ 1)) && (decide (x1 ≤ 4)))) (
    cond (x1 == 1) (
      some (decide (x3 = x0.f_Value))) (
      cond (x1 == 2) (
        (L_value_Leading x2 x0.f_Prefix).bind fun y1 =>
        (L_value_And x3 y1).bind fun y2 =>
        (L_value_And x0.f_Value y1).bind fun y3 =>
        some (decide (y2 = y3))) (
        cond (x1 == 3) (
          (L_value_And x3 x0.f_Mask).bind fun y4 =>
          some (decide (y4 = x0.f_Value))) (
          cond (x1 == 4) (
            (L_value_Compare x0.f_Value x3).bind fun y5 =>
            (condM (decide (y5 ≤ 0)) true (L_value_Compare x3 x0.f_High)).bind fun y6 =>
            some ((decide (y5 ≤ 0)) && (decide (y6 ≤ 0)))) (
            some false)))))
def L_entry_Matches (x0 : T_api_Schema) (x1 : T_api_Entry) (x2 : Vector T_api_Value 4) : Option Bool :=
  (L_entry_table x0 x1).bind fun y1 =>
  cond (!y1.2) (
    some false) (
    (loopM (σ := Int) (ε := (Int × Bool) ⊕ (Int × Int × Bool × Bool)) FUEL (fun s1 =>
      cond (decide (s1 < (y1.1.f_Keys.length : Int))) (
        (idx y1.1.f_Keys.length s1).bind fun k1 =>
        (condM ((decide (s1 ≥ (x1.f_Matches.length : Int))) || (decide (s1 ≥ 4))) false (idx x1.f_Matches.length s1)).bind fun k2 =>
        (condM ((decide (s1 ≥ (x1.f_Matches.length : Int))) || (decide (s1 ≥ 4))) false (L_entry_bitsOf x0 (lget y1.1.f_Keys k1))).bind fun y2 =>
        (condM ((decide (s1 ≥ (x1.f_Matches.length : Int))) || (decide (s1 ≥ 4))) false (idx 4 s1)).bind fun k3 =>
        (condM ((decide (s1 ≥ (x1.f_Matches.length : Int))) || (decide (s1 ≥ 4))) false (L_entry_Covers (lget x1.f_Matches k2) ((lget y1.1.f_Keys k1).f_Kind) y2 (vget x2 k3))).bind fun y3 =>
        (some (((decide (s1 ≥ (x1.f_Matches.length : Int))) || (decide (s1 ≥ 4))) || (!y3))).bind fun z1 =>
        cond z1 (
          some (.inr (Sum.inr (s1, s1, decide (s1 < (y1.1.f_Keys.length : Int)), z1)))) (
          some (.inl (w64 (s1 + 1))))) (
        some (.inr (Sum.inl (s1, decide (s1 < (y1.1.f_Keys.length : Int))))))) 0).bind fun e1 =>
      Sum.elim (fun e1 =>
        some true) (fun e1 =>
      some false) e1)
def L_slices_Clone_api_Match (x0 : List T_api_Match) : Option (List T_api_Match) :=
  (appM 64 ([] : List T_api_Match) x0).bind fun y1 =>
  some y1
def L_slices_Clone_api_Value (x0 : List T_api_Value) : Option (List T_api_Value) :=
  (appM 16 ([] : List T_api_Value) x0).bind fun y1 =>
  some y1
def L_own_Entry (x0 : T_api_Entry) : Option T_api_Entry :=
  (L_slices_Clone_api_Match x0.f_Matches).bind fun y1 =>
  (L_slices_Clone_api_Value x0.f_Args).bind fun y2 =>
  (some (({ ({ x0 with f_Matches := y1 } : T_api_Entry) with f_Args := y2 } : T_api_Entry))).bind fun z1 =>
  some z1
def L_own_Installed (x0 : T_api_Installed) : Option T_api_Installed :=
  (L_own_Entry x0.f_Entry).bind fun y1 =>
  some ({ x0 with f_Entry := y1 } : T_api_Installed)
def Ln0_ordered_List_Lookup (x1 : Vector T_api_Value 4) : Option (T_api_Installed × Bool) :=
  some ((default : T_api_Installed), false)
def Lf0_mcase_Codes_Left (x0 : T_mcase_Codes) : Option Bool :=
  some (decide (x0.f_at < (x0.f_l.length : Int)))
def L_mcase_Mod (x0 : Int) (x1 : Int) : Option Int :=
  cond (decide (x1 < 1)) (
    some 0) (
    (modM x0 x1).bind fun y1 =>
    (modM (w64 (y1 + x1)) x1).bind fun y2 =>
    some y2)
def L_mcase_bitsOf (x0 : T_api_Schema) (x1 : Int) : Option Int :=
  (loopM (σ := Int) (ε := (Int × Bool) ⊕ (Int × Int × Bool × Bool)) FUEL (fun s1 =>
    cond (decide (s1 < (x0.f_Fields.length : Int))) (
      (idx x0.f_Fields.length s1).bind fun k1 =>
      cond (((lget x0.f_Fields k1).f_ID) == x1) (
        some (.inr (Sum.inr ((lget x0.f_Fields k1).f_Bits, s1, decide (s1 < (x0.f_Fields.length : Int)), ((lget x0.f_Fields k1).f_ID) == x1)))) (
        some (.inl (w64 (s1 + 1))))) (
      some (.inr (Sum.inl (s1, decide (s1 < (x0.f_Fields.length : Int))))))) 0).bind fun e1 =>
    Sum.elim (fun e1 =>
      some 0) (fun e1 =>
    some e1.1) e1
def L_mcase_Low (x0 : T_api_Value) (x1 : Int) : Option T_api_Value :=
  cond (decide (x1 ≥ 128)) (
    some x0) (
    cond (decide (x1 ≥ 64)) (
      (some (x0.f_Hi &&& (((1#64) <<< (BitVec.ofInt 64 (w64 (x1 - 64))).toNat) - (1#64)))).bind fun z1 =>
      some ({ f_Hi := z1, f_Lo := x0.f_Lo : T_api_Value })) (
      cond (decide (x1 ≤ 0)) (
        some (default : T_api_Value)) (
        (some (({ (default : T_api_Value) with f_Lo := x0.f_Lo &&& (((1#64) <<< (BitVec.ofInt 64 x1).toNat) - (1#64)) } : T_api_Value))).bind fun z2 =>
        some z2)))
def L_mcase_mask (x0 : Int) (x1 : Int) : Option T_api_Value :=
  (some ((((1#64) <<< (BitVec.ofInt 64 x0).toNat) - (1#64)) - (((1#64) <<< (BitVec.ofInt 64 (w64 (x0 - x1))).toNat) - (1#64)))).bind fun z1 =>
  some ({ (default : T_api_Value) with f_Lo := z1 } : T_api_Value)
def L_mcase_Codes_match (x0 : T_mcase_Codes) (x1 : T_api_Schema) (x2 : T_api_Key) : Option (T_api_Match × T_mcase_Codes) :=
  (L_mcase_bitsOf x1 x2.f_Field).bind fun y1 =>
  (L_mcase_Codes_Next x0 256).bind fun y2 =>
  (L_mcase_Codes_Next y2.2 16).bind fun y3 =>
  (some (((BitVec.ofInt 64 y2.1) <<< (24#64).toNat) ||| ((BitVec.ofInt 64 y3.1) <<< (8#64).toNat))).bind fun z1 =>
  (L_mcase_Codes_Next y3.2 16).bind fun y4 =>
  (some (({ (default : T_api_Value) with f_Lo := z1 ||| (BitVec.ofInt 64 y4.1) } : T_api_Value))).bind fun z2 =>
  (L_mcase_Low z2 y1).bind fun y5 =>
  cond (x2.f_Kind == 2) (
    (L_mcase_Codes_Next y4.2 5).bind fun y6 =>
    cond (decide (y6.1 > 0)) (
      (L_mcase_Codes_Next y6.2 y1).bind fun y7 =>
      (L_mcase_Codes_Next y7.2 5).bind fun y8 =>
      (idx ([y1, 8, 16, 1, w64 (1 + y7.1)].length) y8.1).bind fun k1 =>
      (L_mcase_mask y1 (lget [y1, 8, 16, 1, w64 (1 + y7.1)] k1)).bind fun y9 =>
      (some (({ (default : T_api_Value) with f_Lo := y5.f_Lo &&& y9.f_Lo } : T_api_Value))).bind fun z3 =>
      (some (({ (default : T_api_Match) with f_Present := true, f_Prefix := lget [y1, 8, 16, 1, w64 (1 + y7.1)] k1, f_Value := z3 } : T_api_Match))).bind fun z4 =>
      some (z4, y8.2)) (
      some ((default : T_api_Match), y6.2))) (
    cond (x2.f_Kind == 3) (
      (L_mcase_Codes_Next y4.2 256).bind fun y10 =>
      (L_mcase_Codes_Next y10.2 5).bind fun y11 =>
      (idx (([255, 15, 1, 12, y10.1] : List Int).length) y11.1).bind fun k2 =>
      (some (({ (default : T_api_Value) with f_Lo := BitVec.ofInt 64 (lget ([255, 15, 1, 12, y10.1] : List Int) k2) } : T_api_Value))).bind fun z5 =>
      (L_mcase_Low z5 y1).bind fun y12 =>
      cond (y12.f_Lo != (0#64)) (
        (some (({ (default : T_api_Value) with f_Lo := y5.f_Lo &&& y12.f_Lo } : T_api_Value))).bind fun z6 =>
        (some (({ (default : T_api_Match) with f_Present := true, f_Mask := y12, f_Value := z6 } : T_api_Match))).bind fun z7 =>
        some (z7, y11.2)) (
        some ((default : T_api_Match), y11.2))) (
      cond (x2.f_Kind == 4) (
        (L_mcase_Codes_Next y4.2 256).bind fun y13 =>
        (some (umin (y5.f_Lo + (BitVec.ofInt 64 y13.1)) (((1#64) <<< (BitVec.ofInt 64 y1).toNat) - (1#64)))).bind fun z8 =>
        (L_mcase_Codes_Next y13.2 5).bind fun y14 =>
        (some ((decide (y14.1 > 0)) && (!((y5.f_Lo == (0#64)) && (z8 == (((1#64) <<< (BitVec.ofInt 64 y1).toNat) - (1#64))))))).bind fun z9 =>
        cond z9 (
          (some (({ (default : T_api_Match) with f_Present := true, f_Value := y5, f_High := ({ (default : T_api_Value) with f_Lo := z8 } : T_api_Value) } : T_api_Match))).bind fun z10 =>
          some (z10, y14.2)) (
          some ((default : T_api_Match), y14.2))) (
        (some (({ (default : T_api_Match) with f_Present := true, f_Value := y5 } : T_api_Match))).bind fun z11 =>
        some (z11, y4.2))))
def L_mcase_ActionIn (x0 : T_api_Schema) (x1 : Int) : Option T_api_Action :=
  (loopM (σ := Int) (ε := (Int × Bool) ⊕ (Int × Bool × Bool × T_api_Action)) FUEL (fun s1 =>
    cond (decide (s1 < (x0.f_Actions.length : Int))) (
      (idx x0.f_Actions.length s1).bind fun k1 =>
      cond (((lget x0.f_Actions k1).f_ID) == x1) (
        some (.inr (Sum.inr (s1, decide (s1 < (x0.f_Actions.length : Int)), ((lget x0.f_Actions k1).f_ID) == x1, (lget x0.f_Actions k1))))) (
        some (.inl (w64 (s1 + 1))))) (
      some (.inr (Sum.inl (s1, decide (s1 < (x0.f_Actions.length : Int))))))) 0).bind fun e1 =>
    Sum.elim (fun e1 =>
      some (default : T_api_Action)) (fun e1 =>
    some e1.2.2.2) e1
def L_mcase_Codes_Entry (x0 : T_mcase_Codes) (x1 : T_api_Schema) (x2 : Int) : Option (T_api_Entry × T_mcase_Codes) :=
  (L_mcase_Mod x2 (x1.f_Tables.length : Int)).bind fun y1 =>
  (idx x1.f_Tables.length y1).bind fun k1 =>
  (loopM (σ := Int × T_api_Entry × (List T_api_Match) × T_mcase_Codes) (ε := (Int × Bool × T_api_Entry × (List T_api_Match) × T_mcase_Codes)) FUEL (fun s1 =>
    cond (decide (s1.1 < (((lget x1.f_Tables k1).f_Keys).length : Int))) (
      (idx (((lget x1.f_Tables k1).f_Keys).length) s1.1).bind fun k2 =>
      (L_mcase_Codes_match s1.2.2.2 x1 (lget ((lget x1.f_Tables k1).f_Keys) k2)).bind fun y2 =>
      (appM 64 s1.2.2.1 [y2.1]).bind fun y3 =>
      (some ((((lget ((lget x1.f_Tables k1).f_Keys) k2).f_Kind) == 3) || (((lget ((lget x1.f_Tables k1).f_Keys) k2).f_Kind) == 4))).bind fun z1 =>
      (cond z1 (
        (L_mcase_Codes_Next y2.2 5).bind fun y4 =>
        (some (({ ({ s1.2.1 with f_Matches := [] } : T_api_Entry) with f_Priority := w64 (1 + y4.1) } : T_api_Entry))).bind fun z2 =>
        some (z2, y4.2)) (
        some (({ s1.2.1 with f_Matches := [] } : T_api_Entry), y2.2))).bind fun m1 =>
      some (.inl (w64 (s1.1 + 1), m1.1, y3, m1.2))) (
      some (.inr (s1.1, decide (s1.1 < (((lget x1.f_Tables k1).f_Keys).length : Int)), s1.2.1, s1.2.2.1, s1.2.2.2)))) (0, ({ (default : T_api_Entry) with f_Table := (lget x1.f_Tables k1).f_ID } : T_api_Entry), ([] : List T_api_Match), x0)).bind fun e1 =>
  (L_mcase_Codes_Next e1.2.2.2.2 (((lget x1.f_Tables k1).f_Actions).length : Int)).bind fun y5 =>
  (idx (((lget x1.f_Tables k1).f_Actions).length) y5.1).bind fun k3 =>
  (some (({ e1.2.2.1 with f_Action := lget ((lget x1.f_Tables k1).f_Actions) k3 } : T_api_Entry))).bind fun z3 =>
  (L_mcase_ActionIn x1 z3.f_Action).bind fun y6 =>
  (loopM (σ := Int × T_api_Entry × (List T_api_Value) × T_mcase_Codes) (ε := (Int × Bool × T_api_Entry × (List T_api_Value) × T_mcase_Codes)) FUEL (fun s2 =>
    cond (decide (s2.1 < (y6.f_Params.length : Int))) (
      (idx y6.f_Params.length s2.1).bind fun k4 =>
      (L_mcase_Codes_Next s2.2.2.2 256).bind fun y7 =>
      (some (({ (default : T_api_Value) with f_Lo := BitVec.ofInt 64 y7.1 } : T_api_Value))).bind fun z4 =>
      (L_mcase_Low z4 ((lget y6.f_Params k4).f_Bits)).bind fun y8 =>
      (appM 16 s2.2.2.1 [y8]).bind fun y9 =>
      some (.inl (w64 (s2.1 + 1), ({ s2.2.1 with f_Args := [] } : T_api_Entry), y9, y7.2))) (
      some (.inr (s2.1, decide (s2.1 < (y6.f_Params.length : Int)), s2.2.1, s2.2.2.1, s2.2.2.2)))) (0, z3, ([] : List T_api_Value), y5.2)).bind fun e2 =>
  (some (({ ({ e2.2.2.1 with f_Matches := e1.2.2.2.1 } : T_api_Entry) with f_Args := e2.2.2.2.1 } : T_api_Entry))).bind fun z5 =>
  some (z5, e2.2.2.2.2)
def L_ordered_List_find_fn1 (x0 : T_api_Installed) (x1 : Int) : Option Bool :=
  some (x0.f_Number == x1)
def L_slices_IndexFunc_api_Installed (x0 : List T_api_Installed) (x1 : T_api_Installed → Option Bool) : Option Int :=
  (loopM (σ := Int) (ε := (Int × Bool) ⊕ (Int × Int × Int × Bool × Bool)) FUEL (fun s1 =>
    cond (decide (s1 < (x0.length : Int))) (
      (idx x0.length s1).bind fun k1 =>
      (x1 (lget x0 k1)).bind fun y1 =>
      cond y1 (
        some (.inr (Sum.inr (s1, s1, s1, decide (s1 < (x0.length : Int)), y1)))) (
        some (.inl (w64 (s1 + 1))))) (
      some (.inr (Sum.inl (s1, decide (s1 < (x0.length : Int))))))) 0).bind fun e1 =>
    Sum.elim (fun e1 =>
      some (-1)) (fun e1 =>
    some e1.1) e1
def Lf0_ordered_List_find (x0 : T_ordered_List) (x1 : Int) : Option Int :=
  (L_slices_IndexFunc_api_Installed x0.f_l (fun a0 => L_ordered_List_find_fn1 a0 x1)).bind fun y1 =>
  some y1
def L_slices_BinarySearchFunc_api_Installed (x0 : List T_api_Installed) (x1 : T_api_Installed) (x2 : T_api_Installed → T_api_Installed → Option Int) : Option (Int × Bool) :=
  (loopM (σ := Int × Int) (ε := (Int × Int × Bool)) FUEL (fun s1 =>
    cond (decide (s1.1 < s1.2)) (
      (idx x0.length (w64 ((BitVec.ofInt 64 (w64 (s1.1 + s1.2))) >>> (1#64).toNat).toNat)).bind fun k1 =>
      (x2 (lget x0 k1) x1).bind fun y1 =>
      (cond (decide (y1 < 0)) (
        (some (w64 ((w64 ((BitVec.ofInt 64 (w64 (s1.1 + s1.2))) >>> (1#64).toNat).toNat) + 1))).bind fun z1 =>
        some (z1, s1.2)) (
        some (s1.1, w64 ((BitVec.ofInt 64 (w64 (s1.1 + s1.2))) >>> (1#64).toNat).toNat))).bind fun m1 =>
      some (.inl (m1.1, m1.2))) (
      some (.inr (s1.1, s1.2, decide (s1.1 < s1.2))))) (0, (x0.length : Int))).bind fun e1 =>
  (condM (decide (e1.1 < (x0.length : Int))) true (idx x0.length e1.1)).bind fun k2 =>
  (condM (decide (e1.1 < (x0.length : Int))) true (x2 (lget x0 k2) x1)).bind fun y2 =>
  some (e1.1, (decide (e1.1 < (x0.length : Int))) && (y2 == 0))
def L_cmp_isNaN_int (x0 : Int) : Option Bool :=
  some (x0 != x0)
def L_cmp_Compare_int (x0 : Int) (x1 : Int) : Option Int :=
  (L_cmp_isNaN_int x0).bind fun y1 =>
  (L_cmp_isNaN_int x1).bind fun y2 =>
  cond y1 (
    cond y2 (
      some 0) (
      some (-1))) (
    cond y2 (
      some 1) (
      cond (decide (x0 < x1)) (
        some (-1)) (
        cond (decide (x0 > x1)) (
          some 1) (
          some 0))))
def L_slices_IndexFunc_api_Key (x0 : List T_api_Key) (x1 : T_api_Key → Option Bool) : Option Int :=
  (loopM (σ := Int) (ε := (Int × Bool) ⊕ (Int × Int × Int × Bool × Bool)) FUEL (fun s1 =>
    cond (decide (s1 < (x0.length : Int))) (
      (idx x0.length s1).bind fun k1 =>
      (x1 (lget x0 k1)).bind fun y1 =>
      cond y1 (
        some (.inr (Sum.inr (s1, s1, s1, decide (s1 < (x0.length : Int)), y1)))) (
        some (.inl (w64 (s1 + 1))))) (
      some (.inr (Sum.inl (s1, decide (s1 < (x0.length : Int))))))) 0).bind fun e1 =>
    Sum.elim (fun e1 =>
      some (-1)) (fun e1 =>
    some e1.1) e1
def L_entry_Prefix_fn1 (x0 : T_api_Key) : Option Bool :=
  some (x0.f_Kind == 2)
def L_entry_Prefix (x0 : T_api_Schema) (x1 : T_api_Entry) : Option Int :=
  (L_entry_table x0 x1).bind fun y1 =>
  (L_slices_IndexFunc_api_Key y1.1.f_Keys L_entry_Prefix_fn1).bind fun y2 =>
  (some (((!y1.2) || (decide (y2 < 0))) || (decide (y2 ≥ (x1.f_Matches.length : Int))))).bind fun z1 =>
  cond z1 (
    some 0) (
    (idx x1.f_Matches.length y2).bind fun k1 =>
    some ((lget x1.f_Matches k1).f_Prefix))
def L_entry_first (x0 : List Int) : Option Int :=
  (loopM (σ := Int) (ε := (Int × Bool) ⊕ (Int × Int × Int × Bool × Bool)) FUEL (fun s1 =>
    cond (decide (s1 < (x0.length : Int))) (
      (idx x0.length s1).bind fun k1 =>
      cond ((lget x0 k1) != 0) (
        some (.inr (Sum.inr (lget x0 k1, lget x0 k1, s1, decide (s1 < (x0.length : Int)), (lget x0 k1) != 0)))) (
        some (.inl (w64 (s1 + 1))))) (
      some (.inr (Sum.inl (s1, decide (s1 < (x0.length : Int))))))) 0).bind fun e1 =>
    Sum.elim (fun e1 =>
      some 0) (fun e1 =>
    some e1.1) e1
def L_entry_Beats (x0 : T_api_Schema) (x1 : T_api_Installed) (x2 : T_api_Installed) : Option Bool :=
  (L_cmp_Compare_int x1.f_Entry.f_Priority x2.f_Entry.f_Priority).bind fun y1 =>
  (L_entry_Prefix x0 x1.f_Entry).bind fun y2 =>
  (L_entry_Prefix x0 x2.f_Entry).bind fun y3 =>
  (L_cmp_Compare_int y2 y3).bind fun y4 =>
  (L_cmp_Compare_int x1.f_Number x2.f_Number).bind fun y5 =>
  (L_entry_first [y1, y4, y5]).bind fun y6 =>
  some (decide (y6 > 0))
def Lf0_ordered_List_order (x0 : T_ordered_List) (x1 : T_api_Installed) (x2 : T_api_Installed) : Option Int :=
  (L_entry_Beats x0.f_schema x1 x2).bind fun y1 =>
  cond y1 (
    some (-1)) (
    (L_entry_Beats x0.f_schema x2 x1).bind fun y2 =>
    cond y2 (
      some 1) (
      some 0))
def Lp0_2_slices_Insert_api_Installed (x0 : List T_api_Installed) (x1 : Int) (x2 : List T_api_Installed) : Option (List T_api_Installed) := insM 88 x0 x1 x2
def Lh0_1_ordered_List_Put (x0 : T_ordered_List) (x1 : T_api_Installed) : Option (Bool × T_ordered_List) :=
  (condM false false (Lf0_ordered_List_find x0 x1.f_Number)).bind fun y1 =>
  cond (false || (decide (y1 ≥ 0))) (
    some (false, x0)) (
    (L_slices_BinarySearchFunc_api_Installed x0.f_l x1 (fun a0 a1 => Lf0_ordered_List_order x0 a0 a1)).bind fun y2 =>
    (L_own_Installed x1).bind fun y3 =>
    (Lp0_2_slices_Insert_api_Installed x0.f_l y2.1 [y3]).bind fun y4 =>
    some (true, ({ x0 with f_l := y4 } : T_ordered_List)))
def Lh0_1_law13_put (x0 : T_ordered_List) (x1 : T_mcase_Codes) (x2 : T_api_Schema) (x3 : Int) (x4 : Int) : Option ((List T_api_Installed) × Bool × T_ordered_List × T_mcase_Codes) :=
  (loopM (σ := Int × (List T_api_Installed) × T_ordered_List × (List T_api_Installed) × T_mcase_Codes) (ε := (Int × Bool × (List T_api_Installed) × T_ordered_List × (List T_api_Installed) × T_mcase_Codes) ⊕ (Int × Bool × Bool × Int × Int × Bool × Bool × (List T_api_Installed) × T_ordered_List × (List T_api_Installed) × T_mcase_Codes)) FUEL (fun s1 =>
    (condM (decide (s1.1 < x4)) true (Lf0_mcase_Codes_Left s1.2.2.2.2)).bind fun y1 =>
    cond ((decide (s1.1 < x4)) && y1) (
      (L_mcase_Codes_Entry s1.2.2.2.2 x2 x3).bind fun y2 =>
      (L_mcase_Codes_Next y2.2 40).bind fun y3 =>
      (L_mcase_Codes_Next y3.2 3).bind fun y4 =>
      (some ({ f_Entry := y2.1, f_Number := y3.1, f_Owner := y4.1 : T_api_Installed })).bind fun z1 =>
      (loopM (σ := Bool × Int) (ε := (Bool × Int × Bool)) FUEL (fun s2 =>
        cond (decide (s2.2 < (s1.2.1.length : Int))) (
          (idx s1.2.1.length s2.2).bind fun k1 =>
          some (.inl (s2.1 || (((lget s1.2.1 k1).f_Number) == z1.f_Number), w64 (s2.2 + 1)))) (
          some (.inr (s2.1, s2.2, decide (s2.2 < (s1.2.1.length : Int)))))) (false, 0)).bind fun e2 =>
      (Lh0_1_ordered_List_Put ({ s1.2.2.1 with f_l := s1.2.2.2.1 } : T_ordered_List) z1).bind fun y5 =>
      cond (y5.1 == e2.1) (
        some (.inr (Sum.inr (s1.1, e2.1, (decide (s1.1 < x4)) && y1, (s1.2.1.length : Int), e2.2.1, e2.2.2, y5.1 == e2.1, s1.2.1, ({ y5.2 with f_l := [] } : T_ordered_List), y5.2.f_l, y4.2)))) (
        (cond (!e2.1) (
          (appM 88 s1.2.1 [z1]).bind fun y6 =>
          some y6) (
          some s1.2.1)).bind fun m1 =>
        some (.inl (w64 (s1.1 + 1), m1, ({ y5.2 with f_l := [] } : T_ordered_List), y5.2.f_l, y4.2)))) (
      some (.inr (Sum.inl (s1.1, (decide (s1.1 < x4)) && y1, s1.2.1, s1.2.2.1, s1.2.2.2.1, s1.2.2.2.2))))) (0, ([] : List T_api_Installed), ({ x0 with f_l := [] } : T_ordered_List), x0.f_l, x1)).bind fun e1 =>
    Sum.elim (fun e1 =>
      some (e1.2.2.1, true, ({ e1.2.2.2.1 with f_l := e1.2.2.2.2.1 } : T_ordered_List), e1.2.2.2.2.2)) (fun e1 =>
    some (([] : List T_api_Installed), false, ({ e1.2.2.2.2.2.2.2.2.1 with f_l := e1.2.2.2.2.2.2.2.2.2.1 } : T_ordered_List), e1.2.2.2.2.2.2.2.2.2.2)) e1
def Lq0_1_ordered_New (x0 : T_api_Schema) : Option T_ordered_List :=
  some ({ ({ (default : T_ordered_List) with f_schema := x0 } : T_ordered_List) with f_l := ([] : List T_api_Installed) } : T_ordered_List)
def Ln0_ordered_List_Len  : Option Int :=
  some 0
def Ln0_ordered_List_find (x1 : Int) : Option Int :=
  some (-1)
def Ln0_ordered_List_Remove (x1 : Int) : Option Bool :=
  (Ln0_ordered_List_find x1).bind fun y1 =>
  cond (decide (y1 < 0)) (
    some false) (
    none)
def L_ref04_ids (x0 : T_api_Schema) : Option (Vector (List Int) 6) :=
  (loopM (σ := Int × (List Int) × (Vector (List Int) 6)) (ε := (Int × Bool × (List Int) × (Vector (List Int) 6))) FUEL (fun s1 =>
    cond (decide (s1.1 < (x0.f_Fields.length : Int))) (
      (idx x0.f_Fields.length s1.1).bind fun k1 =>
      (appM 8 s1.2.1 [(lget x0.f_Fields k1).f_ID]).bind fun y1 =>
      some (.inl (w64 (s1.1 + 1), y1, vset s1.2.2 0 []))) (
      some (.inr (s1.1, decide (s1.1 < (x0.f_Fields.length : Int)), s1.2.1, s1.2.2)))) (0, ([] : List Int), (default : Vector (List Int) 6))).bind fun e1 =>
  (loopM (σ := Int × (List Int) × (Vector (List Int) 6)) (ε := (Int × Bool × (List Int) × (Vector (List Int) 6))) FUEL (fun s2 =>
    cond (decide (s2.1 < (x0.f_Headers.length : Int))) (
      (idx x0.f_Headers.length s2.1).bind fun k2 =>
      (appM 8 s2.2.1 [(lget x0.f_Headers k2).f_ID]).bind fun y2 =>
      some (.inl (w64 (s2.1 + 1), y2, vset s2.2.2 1 []))) (
      some (.inr (s2.1, decide (s2.1 < (x0.f_Headers.length : Int)), s2.2.1, s2.2.2)))) (0, ([] : List Int), e1.2.2.2)).bind fun e2 =>
  (loopM (σ := Int × (List Int) × (Vector (List Int) 6)) (ε := (Int × Bool × (List Int) × (Vector (List Int) 6))) FUEL (fun s3 =>
    cond (decide (s3.1 < (x0.f_States.length : Int))) (
      (idx x0.f_States.length s3.1).bind fun k3 =>
      (appM 8 s3.2.1 [(lget x0.f_States k3).f_ID]).bind fun y3 =>
      some (.inl (w64 (s3.1 + 1), y3, vset s3.2.2 2 []))) (
      some (.inr (s3.1, decide (s3.1 < (x0.f_States.length : Int)), s3.2.1, s3.2.2)))) (0, ([] : List Int), e2.2.2.2)).bind fun e3 =>
  (loopM (σ := Int × (List Int) × (Vector (List Int) 6)) (ε := (Int × Bool × (List Int) × (Vector (List Int) 6))) FUEL (fun s4 =>
    cond (decide (s4.1 < (x0.f_Actions.length : Int))) (
      (idx x0.f_Actions.length s4.1).bind fun k4 =>
      (appM 8 s4.2.1 [(lget x0.f_Actions k4).f_ID]).bind fun y4 =>
      some (.inl (w64 (s4.1 + 1), y4, vset s4.2.2 3 []))) (
      some (.inr (s4.1, decide (s4.1 < (x0.f_Actions.length : Int)), s4.2.1, s4.2.2)))) (0, ([] : List Int), e3.2.2.2)).bind fun e4 =>
  (loopM (σ := Int × (List Int) × (Vector (List Int) 6)) (ε := (Int × Bool × (List Int) × (Vector (List Int) 6))) FUEL (fun s5 =>
    cond (decide (s5.1 < (x0.f_Tables.length : Int))) (
      (idx x0.f_Tables.length s5.1).bind fun k5 =>
      (appM 8 s5.2.1 [(lget x0.f_Tables k5).f_ID]).bind fun y5 =>
      some (.inl (w64 (s5.1 + 1), y5, vset s5.2.2 4 []))) (
      some (.inr (s5.1, decide (s5.1 < (x0.f_Tables.length : Int)), s5.2.1, s5.2.2)))) (0, ([] : List Int), e4.2.2.2)).bind fun e5 =>
  (loopM (σ := Int × (List Int) × (Vector (List Int) 6)) (ε := (Int × Bool × (List Int) × (Vector (List Int) 6))) FUEL (fun s6 =>
    cond (decide (s6.1 < (x0.f_Roles.length : Int))) (
      (idx x0.f_Roles.length s6.1).bind fun k6 =>
      (appM 8 s6.2.1 [(lget x0.f_Roles k6).f_ID]).bind fun y6 =>
      some (.inl (w64 (s6.1 + 1), y6, vset s6.2.2 5 []))) (
      some (.inr (s6.1, decide (s6.1 < (x0.f_Roles.length : Int)), s6.2.1, s6.2.2)))) (0, ([] : List Int), e5.2.2.2)).bind fun e6 =>
  (some ((vset (vset (vset (vset (vset (vset e6.2.2.2 0 e1.2.2.1) 1 e2.2.2.1) 2 e3.2.2.1) 3 e4.2.2.1) 4 e5.2.2.1) 5 e6.2.2.1))).bind fun z1 =>
  some z1
def L_ref04_index (x0 : List Int) (x1 : Int) : Option Int :=
  (loopM (σ := Int) (ε := (Int × Bool) ⊕ (Int × Int × Int × Int × Bool × Bool)) FUEL (fun s1 =>
    cond (decide (s1 < (x0.length : Int))) (
      (idx x0.length s1).bind fun k1 =>
      cond ((lget x0 k1) == x1) (
        some (.inr (Sum.inr (s1, s1, lget x0 k1, s1, decide (s1 < (x0.length : Int)), (lget x0 k1) == x1)))) (
        some (.inl (w64 (s1 + 1))))) (
      some (.inr (Sum.inl (s1, decide (s1 < (x0.length : Int))))))) 0).bind fun e1 =>
    Sum.elim (fun e1 =>
      some (-1)) (fun e1 =>
    some e1.1) e1
def L_ref04_TableOf (x0 : T_api_Schema) (x1 : Int) : Option Int :=
  (L_ref04_ids x0).bind fun y1 =>
  (L_ref04_index (vget y1 4) x1).bind fun y2 =>
  some y2
def L_ref10_Prefix (x0 : T_api_Schema) (x1 : T_api_Entry) : Option Int :=
  (L_ref04_TableOf x0 x1.f_Table).bind fun y1 =>
  cond (decide (y1 < 0)) (
    some 0) (
    (idx x0.f_Tables.length y1).bind fun k1 =>
    (loopM (σ := Int) (ε := (Int × Bool) ⊕ (Int × Int × Int × Bool × Bool)) FUEL (fun s1 =>
      cond (decide (s1 < (((lget x0.f_Tables k1).f_Keys).length : Int))) (
        (idx (((lget x0.f_Tables k1).f_Keys).length) s1).bind fun k2 =>
        (some ((((lget ((lget x0.f_Tables k1).f_Keys) k2).f_Kind) == 2) && (decide (s1 < (x1.f_Matches.length : Int))))).bind fun z1 =>
        cond z1 (
          (idx x1.f_Matches.length s1).bind fun k3 =>
          some (.inr (Sum.inr ((lget x1.f_Matches k3).f_Prefix, s1, s1, decide (s1 < (((lget x0.f_Tables k1).f_Keys).length : Int)), z1)))) (
          some (.inl (w64 (s1 + 1))))) (
        some (.inr (Sum.inl (s1, decide (s1 < (((lget x0.f_Tables k1).f_Keys).length : Int))))))) 0).bind fun e1 =>
      Sum.elim (fun e1 =>
        some 0) (fun e1 =>
      some e1.1) e1)
def L_ref10_Beats (x0 : T_api_Schema) (x1 : T_api_Installed) (x2 : T_api_Installed) : Option Bool :=
  cond (x1.f_Entry.f_Priority != x2.f_Entry.f_Priority) (
    some (decide (x1.f_Entry.f_Priority > x2.f_Entry.f_Priority))) (
    (L_ref10_Prefix x0 x1.f_Entry).bind fun y1 =>
    (L_ref10_Prefix x0 x2.f_Entry).bind fun y2 =>
    cond (y1 != y2) (
      some (decide (y1 > y2))) (
      some (decide (x1.f_Number > x2.f_Number))))
def L_ref13_Ranked (x0 : T_api_Schema) (x1 : List T_api_Installed) : Option (List T_api_Installed) :=
  (loopM (σ := (List T_api_Installed) × Int) (ε := ((List T_api_Installed) × Int × Bool)) FUEL (fun s1 =>
    cond (decide (s1.2 < (x1.length : Int))) (
      (idx x1.length s1.2).bind fun k1 =>
      (loopM (σ := Int) (ε := (Int × Bool)) FUEL (fun s2 =>
        (condM (decide (s2 < (s1.1.length : Int))) true (idx s1.1.length s2)).bind fun k2 =>
        (condM (decide (s2 < (s1.1.length : Int))) true (L_ref10_Beats x0 (lget s1.1 k2) (lget x1 k1))).bind fun y1 =>
        cond ((decide (s2 < (s1.1.length : Int))) && y1) (
          some (.inl (w64 (s2 + 1)))) (
          some (.inr (s2, (decide (s2 < (s1.1.length : Int))) && y1)))) 0).bind fun e2 =>
      (sliceM s1.1 0 e2.1).bind fun y2 =>
      (appM 88 ([] : List T_api_Installed) y2).bind fun y3 =>
      (appM 88 y3 [(lget x1 k1)]).bind fun y4 =>
      (sliceM s1.1 e2.1 s1.1.length).bind fun y5 =>
      (appM 88 y4 y5).bind fun y6 =>
      some (.inl (y6, w64 (s1.2 + 1)))) (
      some (.inr (s1.1, s1.2, decide (s1.2 < (x1.length : Int)))))) (([] : List T_api_Installed), 0)).bind fun e1 =>
  some e1.1
def L_ref10_number (x0 : Int) (x1 : Int) : Option Int :=
  cond (decide (x0 < x1)) (
    some (-1)) (
    cond (decide (x0 > x1)) (
      some 1) (
      some 0))
def L_ref01_Read (x0 : T_api_Value) : Option (Vector Bool 128) :=
  (loopM (σ := Int × (Vector Bool 128)) (ε := (Int × Bool × (Vector Bool 128))) FUEL (fun s1 =>
    cond (decide (s1.1 < 64)) (
      (idx 128 s1.1).bind fun k1 =>
      (some (vset s1.2 k1 (((x0.f_Lo >>> (BitVec.ofInt 64 s1.1).toNat) &&& (1#64)) == (1#64)))).bind fun z1 =>
      (idx 128 (w64 (s1.1 + 64))).bind fun k2 =>
      (some (vset z1 k2 (((x0.f_Hi >>> (BitVec.ofInt 64 s1.1).toNat) &&& (1#64)) == (1#64)))).bind fun z2 =>
      some (.inl (w64 (s1.1 + 1), z2))) (
      some (.inr (s1.1, decide (s1.1 < 64), s1.2)))) (0, (default : Vector Bool 128))).bind fun e1 =>
  some e1.2.2
def L_ref01_Compare (x0 : T_api_Value) (x1 : T_api_Value) : Option Int :=
  (L_ref01_Read x0).bind fun y1 =>
  (L_ref01_Read x1).bind fun y2 =>
  (loopM (σ := Int) (ε := (Int × Bool) ⊕ (Int × Int × Bool × Bool × Bool)) FUEL (fun s1 =>
    cond (decide (s1 ≥ 0)) (
      (idx 128 s1).bind fun k1 =>
      (idx 128 s1).bind fun k2 =>
      cond ((vget y1 k1) != (vget y2 k2)) (
        (idx 128 s1).bind fun k3 =>
        cond (vget y2 k3) (
          some (.inr (Sum.inr ((-1), s1, decide (s1 ≥ 0), (vget y1 k1) != (vget y2 k2), vget y2 k3)))) (
          some (.inr (Sum.inr (1, s1, decide (s1 ≥ 0), (vget y1 k1) != (vget y2 k2), vget y2 k3))))) (
        some (.inl (w64 (s1 - 1))))) (
      some (.inr (Sum.inl (s1, decide (s1 ≥ 0)))))) 127).bind fun e1 =>
    Sum.elim (fun e1 =>
      some 0) (fun e1 =>
    some e1.1) e1
def L_ref10_match (x0 : T_api_Match) (x1 : T_api_Match) : Option Int :=
  cond ((x0.f_Present != x1.f_Present) && x1.f_Present) (
    some (-1)) (
    cond (x0.f_Present != x1.f_Present) (
      some 1) (
      cond (!decide (x0.f_Value = x1.f_Value)) (
        (L_ref01_Compare x0.f_Value x1.f_Value).bind fun y1 =>
        some y1) (
        cond (!decide (x0.f_Mask = x1.f_Mask)) (
          (L_ref01_Compare x0.f_Mask x1.f_Mask).bind fun y2 =>
          some y2) (
          cond (x0.f_Prefix != x1.f_Prefix) (
            (L_ref10_number x0.f_Prefix x1.f_Prefix).bind fun y3 =>
            some y3) (
            (L_ref01_Compare x0.f_High x1.f_High).bind fun y4 =>
            some y4)))))
def L_ref10_matches (x0 : List T_api_Match) (x1 : List T_api_Match) : Option Int :=
  (loopM (σ := Int) (ε := (Int × Bool) ⊕ (Int × Int × Int × Bool × Bool)) FUEL (fun s1 =>
    cond ((decide (s1 < (x0.length : Int))) && (decide (s1 < (x1.length : Int)))) (
      (idx x0.length s1).bind fun k1 =>
      (idx x1.length s1).bind fun k2 =>
      (L_ref10_match (lget x0 k1) (lget x1 k2)).bind fun y1 =>
      cond (y1 != 0) (
        some (.inr (Sum.inr (y1, s1, y1, (decide (s1 < (x0.length : Int))) && (decide (s1 < (x1.length : Int))), y1 != 0)))) (
        some (.inl (w64 (s1 + 1))))) (
      some (.inr (Sum.inl (s1, (decide (s1 < (x0.length : Int))) && (decide (s1 < (x1.length : Int)))))))) 0).bind fun e1 =>
    Sum.elim (fun e1 =>
      (L_ref10_number (x0.length : Int) (x1.length : Int)).bind fun y2 =>
      some y2) (fun e1 =>
    some e1.1) e1
def L_ref10_values (x0 : List T_api_Value) (x1 : List T_api_Value) : Option Int :=
  (loopM (σ := Int) (ε := (Int × Bool) ⊕ (Int × Int × Int × Bool × Bool)) FUEL (fun s1 =>
    cond ((decide (s1 < (x0.length : Int))) && (decide (s1 < (x1.length : Int)))) (
      (idx x0.length s1).bind fun k1 =>
      (idx x1.length s1).bind fun k2 =>
      (L_ref01_Compare (lget x0 k1) (lget x1 k2)).bind fun y1 =>
      cond (y1 != 0) (
        some (.inr (Sum.inr (y1, s1, y1, (decide (s1 < (x0.length : Int))) && (decide (s1 < (x1.length : Int))), y1 != 0)))) (
        some (.inl (w64 (s1 + 1))))) (
      some (.inr (Sum.inl (s1, (decide (s1 < (x0.length : Int))) && (decide (s1 < (x1.length : Int)))))))) 0).bind fun e1 =>
    Sum.elim (fun e1 =>
      (L_ref10_number (x0.length : Int) (x1.length : Int)).bind fun y2 =>
      some y2) (fun e1 =>
    some e1.1) e1
def L_ref10_Compare (x0 : T_api_Entry) (x1 : T_api_Entry) : Option Int :=
  (L_ref10_number x0.f_Table x1.f_Table).bind fun y1 =>
  (L_ref10_number x1.f_Priority x0.f_Priority).bind fun y2 =>
  (L_ref10_matches x0.f_Matches x1.f_Matches).bind fun y3 =>
  (L_ref10_number x0.f_Action x1.f_Action).bind fun y4 =>
  (loopM (σ := Int) (ε := (Int × Bool) ⊕ (Int × Int × Int × Bool × Bool)) FUEL (fun s1 =>
    cond (decide (s1 < ([y1, y2, y3, y4].length : Int))) (
      (idx ([y1, y2, y3, y4].length) s1).bind fun k1 =>
      cond ((lget [y1, y2, y3, y4] k1) != 0) (
        some (.inr (Sum.inr (lget [y1, y2, y3, y4] k1, lget [y1, y2, y3, y4] k1, s1, decide (s1 < ([y1, y2, y3, y4].length : Int)), (lget [y1, y2, y3, y4] k1) != 0)))) (
        some (.inl (w64 (s1 + 1))))) (
      some (.inr (Sum.inl (s1, decide (s1 < ([y1, y2, y3, y4].length : Int))))))) 0).bind fun e1 =>
    Sum.elim (fun e1 =>
      (L_ref10_values x0.f_Args x1.f_Args).bind fun y5 =>
      some y5) (fun e1 =>
    some e1.1) e1
def L_ref10_Same (x0 : T_api_Entry) (x1 : T_api_Entry) : Option Bool :=
  (L_ref10_Compare x0 x1).bind fun y1 =>
  some (y1 == 0)
def L_ref13_Same (x0 : T_api_Installed) (x1 : T_api_Installed) : Option Bool :=
  (L_ref10_Same x0.f_Entry x1.f_Entry).bind fun y1 =>
  some ((y1 && (x0.f_Number == x1.f_Number)) && (x0.f_Owner == x1.f_Owner))
def L_ref13_SameAll (x0 : List T_api_Installed) (x1 : List T_api_Installed) : Option Bool :=
  cond ((x0.length : Int) != (x1.length : Int)) (
    some false) (
    (loopM (σ := Int) (ε := (Int × Bool) ⊕ (Int × Int × Bool × Bool)) FUEL (fun s1 =>
      cond (decide (s1 < (x0.length : Int))) (
        (idx x0.length s1).bind fun k1 =>
        (idx x1.length s1).bind fun k2 =>
        (L_ref13_Same (lget x0 k1) (lget x1 k2)).bind fun y1 =>
        cond (!y1) (
          some (.inr (Sum.inr (s1, s1, decide (s1 < (x0.length : Int)), !y1)))) (
          some (.inl (w64 (s1 + 1))))) (
        some (.inr (Sum.inl (s1, decide (s1 < (x0.length : Int))))))) 0).bind fun e1 =>
      Sum.elim (fun e1 =>
        some true) (fun e1 =>
      some false) e1)
def Lh1_1_ordered_List_matching_fn1 {σ ε : Type} (x1 : T_ordered_List) (x2 : Vector T_api_Value 4) (step : T_api_Installed → σ → Option (σ ⊕ ε)) (s0 : σ) : Option (σ ⊕ ε) :=
  (loopM (σ := Int × (σ)) (ε := (Int × Bool × (σ)) ⊕ (Int × Bool × Bool × (ε))) FUEL (fun s1 =>
    cond (decide (s1.1 < (x1.f_l.length : Int))) (
      (idx x1.f_l.length s1.1).bind fun k1 =>
      (L_entry_Matches x1.f_schema ((lget x1.f_l k1).f_Entry) x2).bind fun y1 =>
      cond y1 (
        (step (lget x1.f_l k1) s1.2).bind fun y2 =>
        Sum.elim (fun s2 =>
          some (.inl (w64 (s1.1 + 1), s2))) (fun q2 =>
          some (.inr (Sum.inr (s1.1, decide (s1.1 < (x1.f_l.length : Int)), y1 && (!false), q2)))) y2) (
        some (.inl (w64 (s1.1 + 1), s1.2)))) (
      some (.inr (Sum.inl (s1.1, decide (s1.1 < (x1.f_l.length : Int)), s1.2))))) (0, s0)).bind fun e1 =>
    Sum.elim (fun e1 =>
      some (.inl e1.2.2)) (fun e1 =>
    some (.inr e1.2.2.2)) e1
def Lh0_1_ordered_List_Lookup (x0 : T_ordered_List) (x1 : Vector T_api_Value 4) : Option (T_api_Installed × Bool) :=
  (L_ordered_List_matching x1).bind fun y1 =>
  (Lh1_1_ordered_List_matching_fn1 x0 y1 (σ := Unit) (ε := Bool × T_api_Installed) (fun (vx1 : T_api_Installed) (s1 : Unit) =>
    (L_own_Installed vx1).bind fun y2 =>
    some (.inr (true, y2))) ()).bind fun e1 =>
  Sum.elim (fun s1 =>
    some ((default : T_api_Installed), false)) (fun q1 =>
    some (q1.2, q1.1)) e1
def Lf0_ordered_List_Len (x0 : T_ordered_List) : Option Int :=
  some (x0.f_l.length : Int)
def L_law13_begun  : Option Bool :=
  (L_mcase_New ([] : List (BitVec 8)) 0).bind fun y1 =>
  (L_mcase_Codes_Schema y1).bind fun y2 =>
  (Lq0_1_ordered_New y2.1).bind fun y3 =>
  (mkM (α := T_api_Match) 64 2).bind fun y4 =>
  (some (({ (default : T_api_Entry) with f_Table := 3, f_Matches := y4, f_Priority := 3, f_Action := 1 } : T_api_Entry))).bind fun z1 =>
  (some (({ (default : T_api_Installed) with f_Entry := z1, f_Number := 9 } : T_api_Installed))).bind fun z2 =>
  (Lh0_1_ordered_List_Put y3 z2).bind fun y5 =>
  (some (({ (default : T_api_Installed) with f_Entry := ({ z1 with f_Priority := 5 } : T_api_Entry), f_Number := 8 } : T_api_Installed))).bind fun z3 =>
  (Lh0_1_ordered_List_Put y5.2 z3).bind fun y6 =>
  (Lh0_1_ordered_List_Lookup y6.2 (default : Vector T_api_Value 4)).bind fun y7 =>
  (condM (y7.2 && (y7.1.f_Number == 8)) true (Lf0_ordered_List_Len y6.2)).bind fun y8 =>
  some ((y7.2 && (y7.1.f_Number == 8)) && (y8 == 2))
def Ll0_own_List (x0 : List T_api_Installed) : Option (List T_api_Installed) :=
  (loopM (σ := Int × (List T_api_Installed)) (ε := (Int × Bool × (List T_api_Installed))) FUEL (fun s1 =>
    cond (decide (s1.1 < (x0.length : Int))) (
      (idx x0.length s1.1).bind fun k1 =>
      (L_own_Installed (lget x0 k1)).bind fun y1 =>
      (appM 88 s1.2 [y1]).bind fun y2 =>
      some (.inl (w64 (s1.1 + 1), y2))) (
      some (.inr (s1.1, decide (s1.1 < (x0.length : Int)), s1.2)))) (0, ([] : List T_api_Installed))).bind fun e1 =>
  some e1.2.2
def Lh0_1_ordered_List_All (x0 : T_ordered_List) : Option (List T_api_Installed) :=
  (Ll0_own_List x0.f_l).bind fun y1 =>
  some y1
def L_law13_OrderedOwn (x0 : List (BitVec 8)) (x1 : List (BitVec 8)) (x2 : Int) : Option Bool :=
  (L_mcase_New x0 120).bind fun y1 =>
  (L_mcase_Codes_Schema y1).bind fun y2 =>
  (L_mcase_New x1 100).bind fun y3 =>
  (Ln0_ordered_List_Lookup (default : Vector T_api_Value 4)).bind fun y4 =>
  (Lq0_1_ordered_New y2.1).bind fun y5 =>
  (Lh0_1_law13_put y5 y3 y2.1 x2 6).bind fun y6 =>
  (condM ((!y6.2.1) || y4.2) false (Ln0_ordered_List_Len)).bind fun y7 =>
  (condM (((!y6.2.1) || y4.2) || (y7 != 0)) false (Ln0_ordered_List_Remove 1)).bind fun y8 =>
  cond ((((!y6.2.1) || y4.2) || (y7 != 0)) || y8) (
    some false) (
    (Lh0_1_ordered_List_All y6.2.2.1).bind fun y9 =>
    (L_ref13_Ranked y2.1 y6.1).bind fun y10 =>
    (L_ref13_SameAll y9 y10).bind fun y11 =>
    (condM y11 true (L_law13_begun)).bind fun y12 =>
    some (y11 && y12))
end Go.Proofs.Ytmlgdkccoomiaaa

