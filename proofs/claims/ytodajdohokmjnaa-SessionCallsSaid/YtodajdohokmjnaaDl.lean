/-
  Printed by the decompiler (dec.py) out of the seat's translation. Each function of the translation as a functional program. Conditions: none.
-/
import Derived.Test.YtodajdohokmjnaaDt
namespace Go.Proofs.Ytodajdohokmjnaa
open Go Gv
set_option linter.unusedVariables false
set_option linter.unusedSimpArgs false
set_option maxRecDepth 100000
def L_mcase_New (x0 : List (BitVec 8)) (x1 : Int) : Option T_mcase_Codes :=
  (sliceM x0 0 (min (x0.length : Int) x1)).bind fun y1 =>
  some ({ (default : T_mcase_Codes) with f_l := y1 } : T_mcase_Codes)
def L_mcase_Codes_Left (x0 : T_mcase_Codes) : Option Bool :=
  some (decide (x0.f_at < (x0.f_l.length : Int)))
def L_mcase_Codes_Next (x0 : T_mcase_Codes) (x1 : Int) : Option (Int × T_mcase_Codes) :=
  (L_mcase_Codes_Left x0).bind fun y1 =>
  cond ((!y1) || (decide (x1 < 1))) (
    some (0, x0)) (
    (idx x0.f_l.length (w64 ((w64 (x0.f_at + 1)) - 1))).bind fun k1 =>
    (modM ((lget x0.f_l k1).toNat : Int) x1).bind fun y2 =>
    some (y2, ({ x0 with f_at := w64 (x0.f_at + 1) } : T_mcase_Codes)))
def L_mcase_Codes_Bool (x0 : T_mcase_Codes) : Option (Bool × T_mcase_Codes) :=
  (L_mcase_Codes_Next x0 2).bind fun y1 =>
  some (y1.1 == 1, y1.2)
def L_mcase_Codes_states (x0 : T_mcase_Codes) : Option ((List T_api_State) × T_mcase_Codes) :=
  (L_mcase_Codes_Next x0 4).bind fun y1 =>
  (idx (([0, 0, 65535, 3] : List Int).length) y1.1).bind fun k1 =>
  (some ({ f_Value := ({ (default : T_api_Value) with f_Lo := 1#64 } : T_api_Value), f_Mask := ({ (default : T_api_Value) with f_Lo := 15#64 } : T_api_Value), f_Next := 2 : T_api_Case })).bind fun z1 =>
  (some ({ f_Value := ({ (default : T_api_Value) with f_Lo := 2#64 } : T_api_Value), f_Mask := ({ (default : T_api_Value) with f_Lo := 3#64 } : T_api_Value), f_Next := 3 : T_api_Case })).bind fun z2 =>
  (L_mcase_Codes_Bool y1.2).bind fun y2 =>
  (cond y2.1 (
    (L_mcase_Codes_Next y2.2 2).bind fun y6 =>
    (some (({ (default : T_api_Value) with f_Lo := BitVec.ofInt 64 (w64 (8 * y6.1)) } : T_api_Value))).bind fun z7 =>
    (L_mcase_Codes_Next y6.2 4).bind fun y7 =>
    (idx (([0, 0, 65535, 3] : List Int).length) y7.1).bind fun k3 =>
    (some ({ f_Value := z7, f_Mask := ({ (default : T_api_Value) with f_Lo := 8#64 } : T_api_Value), f_Next := lget ([0, 0, 65535, 3] : List Int) k3 : T_api_Case })).bind fun z8 =>
    (appM 40 [z1, z2] [z8]).bind fun y8 =>
    some (y7.2, y8)) (
    some (y2.2, [z1, z2]))).bind fun m1 =>
  (L_mcase_Codes_Next m1.1 4).bind fun y3 =>
  (idx (([0, 0, 65535, 3] : List Int).length) y3.1).bind fun k2 =>
  (some (({ (default : T_api_State) with f_ID := 2, f_Header := 2, f_Default := lget ([0, 0, 65535, 3] : List Int) k2 } : T_api_State))).bind fun z3 =>
  (some (({ (default : T_api_State) with f_ID := 3, f_Header := 3, f_Select := 9, f_Default := 0 } : T_api_State))).bind fun z4 =>
  (L_mcase_Codes_Next y3.2 3).bind fun y4 =>
  (cond (y4.1 == 1) (
    (L_mcase_Codes_Next y4.2 3).bind fun y5 =>
    (some ({ f_Value := ({ (default : T_api_Value) with f_Lo := 5#64 } : T_api_Value), f_Mask := ({ (default : T_api_Value) with f_Lo := 15#64 } : T_api_Value), f_Next := w64 (1 + y5.1) : T_api_Case })).bind fun z6 =>
    some (y5.2, ({ z4 with f_Cases := [z6] } : T_api_State))) (
    some (y4.2, z4))).bind fun m2 =>
  (some (({ ({ (default : T_api_State) with f_ID := 1, f_Header := 1, f_Select := 4, f_Default := lget ([0, 0, 65535, 3] : List Int) k1 } : T_api_State) with f_Cases := m1.2 } : T_api_State))).bind fun z5 =>
  some ([z5, z3, m2.2], m2.1)
def L_mcase_Codes_actions (x0 : T_mcase_Codes) : Option ((List T_api_Action) × T_mcase_Codes) :=
  (some (({ (default : T_api_Action) with f_ID := 1, f_Name := ByteArray.mk #[110, 111, 112] } : T_api_Action))).bind fun z1 =>
  (some (({ (default : T_api_Action) with f_ID := 2, f_Name := ByteArray.mk #[100, 114, 111, 112], f_Body := [({ (default : T_api_Prim) with f_Op := 6 } : T_api_Prim)] } : T_api_Action))).bind fun z2 =>
  (some ({ f_Name := ByteArray.mk #[112, 111, 114, 116], f_Bits := 16 : T_api_Param })).bind fun z3 =>
  (some (({ (default : T_api_Prim) with f_Op := 7, f_Src := ({ (default : T_api_Operand) with f_Kind := 3 } : T_api_Operand) } : T_api_Prim))).bind fun z4 =>
  (some (({ (default : T_api_Action) with f_ID := 3, f_Name := ByteArray.mk #[102, 111, 114, 119, 97, 114, 100], f_Params := [z3], f_Body := [z4] } : T_api_Action))).bind fun z5 =>
  (some ({ f_Op := 1, f_Dst := 5, f_Src := ({ (default : T_api_Operand) with f_Kind := 3 } : T_api_Operand) : T_api_Prim })).bind fun z6 =>
  (some (({ (default : T_api_Operand) with f_Kind := 2, f_N := 5 } : T_api_Operand))).bind fun z7 =>
  (some (({ (default : T_api_Action) with f_ID := 4, f_Name := ByteArray.mk #[116, 97, 103], f_Params := [{ f_Name := ByteArray.mk #[120], f_Bits := 4 : T_api_Param }], f_Body := [z6, { f_Op := 2, f_Dst := 3, f_Src := z7 : T_api_Prim }] } : T_api_Action))).bind fun z8 =>
  (some ([{ f_Name := ByteArray.mk #[120], f_Bits := 4 : T_api_Param }, { f_Name := ByteArray.mk #[121], f_Bits := 12 : T_api_Param }])).bind fun z9 =>
  (some ({ f_Op := 1, f_Dst := 9, f_Src := ({ (default : T_api_Operand) with f_Kind := 3 } : T_api_Operand) : T_api_Prim })).bind fun z10 =>
  (some (({ (default : T_api_Operand) with f_Kind := 3, f_N := 1 } : T_api_Operand))).bind fun z11 =>
  (some ([({ (default : T_api_Prim) with f_Op := 4, f_Dst := 3 } : T_api_Prim), z10, { f_Op := 3, f_Dst := 8, f_Src := z11 : T_api_Prim }])).bind fun z12 =>
  (some (({ (default : T_api_Action) with f_ID := 5, f_Name := ByteArray.mk #[119, 114, 97, 112], f_Params := z9, f_Body := z12 } : T_api_Action))).bind fun z13 =>
  (L_mcase_Codes_Next x0 2).bind fun y1 =>
  (some (({ (default : T_api_Prim) with f_Op := 5, f_Dst := w64 (2 + y1.1) } : T_api_Prim))).bind fun z14 =>
  (L_mcase_Codes_Next y1.2 256).bind fun y2 =>
  (some (({ (default : T_api_Value) with f_Lo := BitVec.ofInt 64 y2.1 } : T_api_Value))).bind fun z15 =>
  (some (({ (default : T_api_Operand) with f_Kind := 1, f_Value := z15 } : T_api_Operand))).bind fun z16 =>
  (some (({ (default : T_api_Action) with f_ID := 6, f_Name := ByteArray.mk #[115, 116, 114, 105, 112], f_Body := [z14, { f_Op := 2, f_Dst := 6, f_Src := z16 : T_api_Prim }] } : T_api_Action))).bind fun z17 =>
  (L_mcase_Codes_Bool y2.2).bind fun y3 =>
  (cond y3.1 (
    (idx ([z1, z2, z5, z8, z13, z17].length) 2).bind fun k2 =>
    (some (lset [z1, z2, z5, z8, z13, z17] k2 ({ (lget [z1, z2, z5, z8, z13, z17] k2) with f_Restriction := ByteArray.mk #[112, 111, 114, 116, 32, 33, 61, 32, 48] } : T_api_Action))).bind fun z19 =>
    some z19) (
    some [z1, z2, z5, z8, z13, z17])).bind fun m1 =>
  (L_mcase_Codes_Bool y3.2).bind fun y4 =>
  (cond y4.1 (
    (idx m1.length 4).bind fun k1 =>
    (some (lset m1 k1 ({ (lget m1 k1) with f_Restriction := ByteArray.mk #[120, 32, 60, 32, 121, 32, 124, 124, 32, 120, 32, 61, 61, 32, 49, 53] } : T_api_Action))).bind fun z18 =>
    some z18) (
    some m1)).bind fun m2 =>
  some (m2, y4.2)
def L_mcase_Codes_tables (x0 : T_mcase_Codes) : Option ((List T_api_Table) × T_mcase_Codes) :=
  (some ({ f_Name := ByteArray.mk #[97], f_Field := 4, f_Kind := 1 : T_api_Key })).bind fun z1 =>
  (L_mcase_Codes_Next x0 2).bind fun y1 =>
  (L_mcase_Codes_Next y1.2 5).bind fun y2 =>
  (some (({ (default : T_api_Table) with f_ID := 1, f_Name := ByteArray.mk #[112, 111, 114, 116, 115], f_Keys := [z1], f_Actions := ([1, 2, 4] : List Int), f_Default := w64 (1 + y1.1), f_Size := w64 (2 + y2.1) } : T_api_Table))).bind fun z2 =>
  (some ({ f_Name := ByteArray.mk #[100], f_Field := 7, f_Kind := 2 : T_api_Key })).bind fun z3 =>
  (L_mcase_Codes_Next y2.2 6).bind fun y3 =>
  (L_mcase_Codes_Bool y3.2).bind fun y4 =>
  (cond y4.1 (
    (some ({ f_Name := ByteArray.mk #[109], f_Field := 3, f_Kind := 1 : T_api_Key })).bind fun z16 =>
    (appM 32 [z3] [z16]).bind fun y12 =>
    some (({ ({ (default : T_api_Table) with f_ID := 2, f_Name := ByteArray.mk #[114, 111, 117, 116, 101, 115], f_Actions := ([1, 2, 3, 4] : List Int), f_Default := 2, f_Size := w64 (3 + y3.1) } : T_api_Table) with f_Keys := [] } : T_api_Table), y12)) (
    some (({ (default : T_api_Table) with f_ID := 2, f_Name := ByteArray.mk #[114, 111, 117, 116, 101, 115], f_Actions := ([1, 2, 3, 4] : List Int), f_Default := 2, f_Size := w64 (3 + y3.1) } : T_api_Table), [z3]))).bind fun m1 =>
  (some ({ f_Name := ByteArray.mk #[101], f_Field := 6, f_Kind := 3 : T_api_Key })).bind fun z4 =>
  (some ({ f_Name := ByteArray.mk #[97], f_Field := 4, f_Kind := 3 : T_api_Key })).bind fun z5 =>
  (L_mcase_Codes_Next y4.2 6).bind fun y5 =>
  (L_mcase_Codes_Bool y5.2).bind fun y6 =>
  (cond y6.1 (
    (some ({ f_Name := ByteArray.mk #[98], f_Field := 5, f_Kind := 1 : T_api_Key })).bind fun z15 =>
    (appM 32 [z4, z5] [z15]).bind fun y11 =>
    some (({ ({ (default : T_api_Table) with f_ID := 3, f_Name := ByteArray.mk #[97, 99, 108], f_Actions := ([1, 2, 3, 5, 6] : List Int), f_Default := 1, f_Size := w64 (4 + y5.1) } : T_api_Table) with f_Keys := [] } : T_api_Table), y11)) (
    some (({ (default : T_api_Table) with f_ID := 3, f_Name := ByteArray.mk #[97, 99, 108], f_Actions := ([1, 2, 3, 5, 6] : List Int), f_Default := 1, f_Size := w64 (4 + y5.1) } : T_api_Table), [z4, z5]))).bind fun m2 =>
  (some ({ f_Name := ByteArray.mk #[102], f_Field := 8, f_Kind := 4 : T_api_Key })).bind fun z6 =>
  (L_mcase_Codes_Next y6.2 5).bind fun y7 =>
  (L_mcase_Codes_Bool y7.2).bind fun y8 =>
  (cond y8.1 (
    (some ({ f_Name := ByteArray.mk #[103], f_Field := 9, f_Kind := 1 : T_api_Key })).bind fun z13 =>
    (some ({ f_Name := ByteArray.mk #[100], f_Field := 7, f_Kind := 2 : T_api_Key })).bind fun z14 =>
    (appM 32 [z6] [z13, z14]).bind fun y10 =>
    some (({ ({ (default : T_api_Table) with f_ID := 4, f_Name := ByteArray.mk #[115, 112, 97, 110, 115], f_Actions := ([1, 3, 5] : List Int), f_Default := 3, f_DefaultArgs := [({ (default : T_api_Value) with f_Lo := 7#64 } : T_api_Value)], f_Size := w64 (3 + y7.1) } : T_api_Table) with f_Keys := [] } : T_api_Table), y10)) (
    some (({ (default : T_api_Table) with f_ID := 4, f_Name := ByteArray.mk #[115, 112, 97, 110, 115], f_Actions := ([1, 3, 5] : List Int), f_Default := 3, f_DefaultArgs := [({ (default : T_api_Value) with f_Lo := 7#64 } : T_api_Value)], f_Size := w64 (3 + y7.1) } : T_api_Table), [z6]))).bind fun m3 =>
  (some ([z2, ({ m1.1 with f_Keys := m1.2 } : T_api_Table), ({ m2.1 with f_Keys := m2.2 } : T_api_Table), ({ m3.1 with f_Keys := m3.2 } : T_api_Table)])).bind fun z7 =>
  (some ([ByteArray.mk #[], ByteArray.mk #[97, 32, 33, 61, 32, 48], ByteArray.mk #[97, 32, 60, 32, 49, 52, 32, 38, 38, 32, 97, 32, 33, 61, 32, 51]])).bind fun z8 =>
  (some ([ByteArray.mk #[], ByteArray.mk #[100, 58, 58, 112, 114, 101, 102, 105, 120, 95, 108, 101, 110, 103, 116, 104, 32, 62, 61, 32, 56], ByteArray.mk #[100, 58, 58, 112, 114, 101, 102, 105, 120, 95, 108, 101, 110, 103, 116, 104, 32, 61, 61, 32, 51, 50, 32, 45, 62, 32, 100, 58, 58, 118, 97, 108, 117, 101, 32, 62, 32, 48, 120, 102, 102]])).bind fun z9 =>
  (some ([ByteArray.mk #[], ByteArray.mk #[112, 114, 105, 111, 114, 105, 116, 121, 32, 60, 32, 49, 48, 48, 32, 38, 38, 32, 40, 101, 58, 58, 109, 97, 115, 107, 32, 33, 61, 32, 48, 32, 124, 124, 32, 97, 58, 58, 109, 97, 115, 107, 32, 33, 61, 32, 48, 41], ByteArray.mk #[101, 58, 58, 109, 97, 115, 107, 32, 61, 61, 32, 48, 32, 45, 62, 32, 112, 114, 105, 111, 114, 105, 116, 121, 32, 62, 32, 53]])).bind fun z10 =>
  (some ([ByteArray.mk #[], ByteArray.mk #[102, 58, 58, 104, 105, 103, 104, 32, 45, 32, 102, 58, 58, 108, 111, 119, 32, 60, 61, 32, 48, 120, 49, 48, 48], ByteArray.mk #[33, 40, 102, 58, 58, 108, 111, 119, 32, 61, 61, 32, 48, 32, 38, 38, 32, 102, 58, 58, 104, 105, 103, 104, 32, 62, 32, 49, 48, 48, 48, 41]])).bind fun z11 =>
  (loopM (σ := Int × (List T_api_Table) × T_mcase_Codes) (ε := (Int × Bool × (List T_api_Table) × T_mcase_Codes)) FUEL (fun s1 =>
    cond (decide (s1.1 < (z7.length : Int))) (
      (idx ([z8, z9, z10, z11].length) s1.1).bind fun k1 =>
      (L_mcase_Codes_Next s1.2.2 3).bind fun y9 =>
      (idx ((lget [z8, z9, z10, z11] k1).length) y9.1).bind fun k2 =>
      (idx s1.2.1.length s1.1).bind fun k3 =>
      (some (lset s1.2.1 k3 ({ (lget s1.2.1 k3) with f_Restriction := lget (lget [z8, z9, z10, z11] k1) k2 } : T_api_Table))).bind fun z12 =>
      some (.inl (w64 (s1.1 + 1), z12, y9.2))) (
      some (.inr (s1.1, decide (s1.1 < (z7.length : Int)), s1.2.1, s1.2.2)))) (0, z7, y8.2)).bind fun e1 =>
  some (e1.2.2.1, e1.2.2.2)
def L_mcase_Codes_roles (x0 : T_mcase_Codes) (x1 : List T_api_Table) : Option ((List T_api_Role) × T_mcase_Codes) :=
  (L_mcase_Codes_Next x0 3).bind fun y1 =>
  (L_mcase_Codes_Next y1.2 6).bind fun y2 =>
  (L_mcase_Codes_Next y2.2 6).bind fun y3 =>
  (L_mcase_Codes_Next y3.2 4).bind fun y4 =>
  (loopM (σ := Int × T_api_Role × (List T_api_Grant) × T_mcase_Codes × T_api_Role × (List T_api_Grant) × T_api_Role × (List T_api_Grant)) (ε := (Int × Bool × T_api_Role × (List T_api_Grant) × T_mcase_Codes × T_api_Role × (List T_api_Grant) × T_api_Role × (List T_api_Grant))) FUEL (fun s1 =>
    cond (decide (s1.1 < (x1.length : Int))) (
      (idx x1.length s1.1).bind fun k1 =>
      (mkM (α := Bool) 1 (((lget x1 k1).f_Keys).length : Int)).bind fun y5 =>
      (mkM (α := Bool) 1 (((lget x1 k1).f_Keys).length : Int)).bind fun y6 =>
      (loopM (σ := Int × (List Bool) × (List Bool) × T_mcase_Codes) (ε := (Int × Bool × (List Bool) × (List Bool) × T_mcase_Codes)) FUEL (fun s2 =>
        cond (decide (s2.1 < (y5.length : Int))) (
          (L_mcase_Codes_Next s2.2.2.2 4).bind fun y7 =>
          (idx s2.2.2.1.length s2.1).bind fun k2 =>
          (idx s2.2.1.length s2.1).bind fun k3 =>
          some (.inl (w64 (s2.1 + 1), lset s2.2.1 k3 (decide (y7.1 > 0)), lset s2.2.2.1 k2 true, y7.2))) (
          some (.inr (s2.1, decide (s2.1 < (y5.length : Int)), s2.2.1, s2.2.2.1, s2.2.2.2)))) (0, y6, y5, s1.2.2.2.1)).bind fun e2 =>
      (some ({ f_Table := (lget x1 k1).f_ID, f_Read := true, f_Write := true, f_Keys := e2.2.2.2.1 : T_api_Grant })).bind fun z1 =>
      (appM 40 s1.2.2.2.2.2.2.2 [z1]).bind fun y8 =>
      (L_mcase_Codes_Next e2.2.2.2.2 4).bind fun y9 =>
      (cond (decide (y9.1 > 0)) (
        (L_mcase_Codes_Next y9.2 4).bind fun y14 =>
        (L_mcase_Codes_Bool y14.2).bind fun y15 =>
        (some ({ f_Table := (lget x1 k1).f_ID, f_Read := decide (y14.1 > 0), f_Write := y15.1, f_Keys := e2.2.2.1 : T_api_Grant })).bind fun z3 =>
        (appM 40 s1.2.2.2.2.2.1 [z3]).bind fun y16 =>
        some (y15.2, ({ s1.2.2.2.2.1 with f_Grants := [] } : T_api_Role), y16)) (
        some (y9.2, s1.2.2.2.2.1, s1.2.2.2.2.2.1))).bind fun m1 =>
      (L_mcase_Codes_Bool m1.1).bind fun y10 =>
      (cond y10.1 (
        (L_mcase_Codes_Bool y10.2).bind fun y11 =>
        (L_mcase_Codes_Bool y11.2).bind fun y12 =>
        (some ({ f_Table := (lget x1 k1).f_ID, f_Read := y11.1, f_Write := y12.1, f_Keys := e2.2.2.2.1 : T_api_Grant })).bind fun z2 =>
        (appM 40 s1.2.2.1 [z2]).bind fun y13 =>
        some (y12.2, ({ s1.2.1 with f_Grants := [] } : T_api_Role), y13)) (
        some (y10.2, s1.2.1, s1.2.2.1))).bind fun m2 =>
      some (.inl (w64 (s1.1 + 1), m2.2.1, m2.2.2, m2.1, m1.2.1, m1.2.2, ({ s1.2.2.2.2.2.2.1 with f_Grants := [] } : T_api_Role), y8))) (
      some (.inr (s1.1, decide (s1.1 < (x1.length : Int)), s1.2.1, s1.2.2.1, s1.2.2.2.1, s1.2.2.2.2.1, s1.2.2.2.2.2.1, s1.2.2.2.2.2.2.1, s1.2.2.2.2.2.2.2)))) (0, ({ (default : T_api_Role) with f_ID := 7, f_Name := ByteArray.mk #[102, 101, 119], f_Actions := [w64 (1 + y3.1)], f_Quota := y4.1 } : T_api_Role), ([] : List T_api_Grant), y4.2, ({ (default : T_api_Role) with f_ID := 2, f_Name := ByteArray.mk #[115, 111, 109, 101], f_Actions := ([1, 2, w64 (3 + y1.1)] : List Int), f_Quota := w64 (1 + y2.1) } : T_api_Role), ([] : List T_api_Grant), ({ (default : T_api_Role) with f_ID := 1, f_Name := ByteArray.mk #[97, 108, 108], f_Actions := ([1, 2, 3, 4, 5, 6] : List Int), f_Quota := 40, f_Audit := true } : T_api_Role), ([] : List T_api_Grant))).bind fun e1 =>
  (some (({ e1.2.2.2.2.2.2.2.1 with f_Grants := e1.2.2.2.2.2.2.2.2 } : T_api_Role))).bind fun z4 =>
  (some ([z4, ({ e1.2.2.2.2.2.1 with f_Grants := e1.2.2.2.2.2.2.1 } : T_api_Role), ({ e1.2.2.1 with f_Grants := e1.2.2.2.1 } : T_api_Role)])).bind fun z5 =>
  some (z5, e1.2.2.2.2.1)
def L_mcase_Codes_Schema (x0 : T_mcase_Codes) : Option (T_api_Schema × T_mcase_Codes) :=
  (L_mcase_Codes_Next x0 8).bind fun y1 =>
  (L_mcase_Codes_Next y1.2 30).bind fun y2 =>
  (some ({ f_ID := 1, f_Name := ByteArray.mk #[105, 110, 103, 114, 101, 115, 115], f_Bits := 16 : T_api_Field })).bind fun z1 =>
  (some ({ f_ID := 2, f_Name := ByteArray.mk #[101, 103, 114, 101, 115, 115], f_Bits := 16 : T_api_Field })).bind fun z2 =>
  (some ({ f_ID := 3, f_Name := ByteArray.mk #[109, 101, 116, 97], f_Bits := 8 : T_api_Field })).bind fun z3 =>
  (some ({ f_ID := 6, f_Name := ByteArray.mk #[101], f_Bits := 8 : T_api_Field })).bind fun z4 =>
  (some ({ f_ID := 7, f_Name := ByteArray.mk #[100], f_Bits := 32 : T_api_Field })).bind fun z5 =>
  (some ({ f_ID := 8, f_Name := ByteArray.mk #[102], f_Bits := 12 : T_api_Field })).bind fun z6 =>
  (some ({ f_ID := 9, f_Name := ByteArray.mk #[103], f_Bits := 4 : T_api_Field })).bind fun z7 =>
  (some ([z1, z2, z3, { f_ID := 4, f_Name := ByteArray.mk #[97], f_Bits := 4 : T_api_Field }, { f_ID := 5, f_Name := ByteArray.mk #[98], f_Bits := 4 : T_api_Field }, z4, z5, z6, z7])).bind fun z8 =>
  (some (({ ({ (default : T_api_Schema) with f_MaxBatch := w64 (2 + y1.1), f_Budget := w64 (12 + y2.1) } : T_api_Schema) with f_Fields := z8 } : T_api_Schema))).bind fun z9 =>
  (some ({ f_ID := 1, f_Name := ByteArray.mk #[111, 110, 101], f_Fields := ([4, 5, 6] : List Int) : T_api_Header })).bind fun z10 =>
  (some ({ f_ID := 2, f_Name := ByteArray.mk #[116, 119, 111], f_Fields := ([7] : List Int) : T_api_Header })).bind fun z11 =>
  (some ({ f_ID := 3, f_Name := ByteArray.mk #[116, 104, 114, 101, 101], f_Fields := ([8, 9] : List Int) : T_api_Header })).bind fun z12 =>
  (L_mcase_Codes_states y2.2).bind fun y3 =>
  (L_mcase_Codes_actions y3.2).bind fun y4 =>
  (L_mcase_Codes_tables y4.2).bind fun y5 =>
  (some (({ ({ z9 with f_Headers := [z10, z11, z12] } : T_api_Schema) with f_States := y3.1 } : T_api_Schema))).bind fun z13 =>
  (some (({ ({ z13 with f_Actions := y4.1 } : T_api_Schema) with f_Tables := y5.1 } : T_api_Schema))).bind fun z14 =>
  (L_mcase_Codes_roles y5.2 z14.f_Tables).bind fun y6 =>
  (some ([{ f_Table := 1, f_Header := 1 : T_api_Stage }, { f_Table := 2, f_Header := 2 : T_api_Stage }, ({ (default : T_api_Stage) with f_Table := 3 } : T_api_Stage), { f_Table := 4, f_Header := 3 : T_api_Stage }])).bind fun z15 =>
  (L_mcase_Codes_Bool y6.2).bind fun y7 =>
  (cond y7.1 (
    (appM 16 z15 [({ (default : T_api_Stage) with f_Table := 1 } : T_api_Stage)]).bind fun y14 =>
    some y14) (
    some z15)).bind fun m1 =>
  (L_mcase_Codes_Bool y7.2).bind fun y8 =>
  (cond y8.1 (
    (some (({ (default : T_api_Ref) with f_Table := 2, f_Action := 4, f_ToTable := 1 } : T_api_Ref))).bind fun z20 =>
    (appM 48 ([] : List T_api_Ref) [z20]).bind fun y13 =>
    some (({ ({ ({ z14 with f_Roles := y6.1 } : T_api_Schema) with f_Stages := [] } : T_api_Schema) with f_Refs := [] } : T_api_Schema), y13)) (
    some (({ ({ z14 with f_Roles := y6.1 } : T_api_Schema) with f_Stages := [] } : T_api_Schema), ([] : List T_api_Ref)))).bind fun m2 =>
  (L_mcase_Codes_Bool y8.2).bind fun y9 =>
  (condM y9.1 true (idx m2.1.f_Tables.length 2)).bind fun k1 =>
  (cond (y9.1 && ((((lget m2.1.f_Tables k1).f_Keys).length : Int) == 3)) (
    (some (({ (default : T_api_Ref) with f_Table := 3, f_Key := 2, f_ToTable := 1 } : T_api_Ref))).bind fun z19 =>
    (appM 48 m2.2 [z19]).bind fun y12 =>
    some (({ m2.1 with f_Refs := [] } : T_api_Schema), y12)) (
    some (m2.1, m2.2))).bind fun m3 =>
  (L_mcase_Codes_Bool y9.2).bind fun y10 =>
  (condM y10.1 true (idx m3.1.f_Tables.length 3)).bind fun k2 =>
  (cond (y10.1 && ((((lget m3.1.f_Tables k2).f_Keys).length : Int) == 3)) (
    (some (({ (default : T_api_Ref) with f_Table := 4, f_Key := 1, f_ToTable := 1 } : T_api_Ref))).bind fun z17 =>
    (some (({ (default : T_api_Ref) with f_Table := 4, f_Action := 5, f_ToTable := 1 } : T_api_Ref))).bind fun z18 =>
    (appM 48 m3.2 [z17, z18]).bind fun y11 =>
    some (({ m3.1 with f_Refs := [] } : T_api_Schema), y11)) (
    some (m3.1, m3.2))).bind fun m4 =>
  (some (({ ({ m4.1 with f_Stages := m1 } : T_api_Schema) with f_Refs := m4.2 } : T_api_Schema))).bind fun z16 =>
  some (z16, y10.2)
def L_mcase_Mod (x0 : Int) (x1 : Int) : Option Int :=
  cond (decide (x1 < 1)) (
    some 0) (
    (modM x0 x1).bind fun y1 =>
    (modM (w64 (y1 + x1)) x1).bind fun y2 =>
    some y2)
def L_law20_Op_near (x0 : T_law20_Op) : Option T_law20_Op :=
  (uremM x0.f_Raw (8#8)).bind fun y1 =>
  (cond (decide (y1 > (0#8))) (
    (L_mcase_Mod x0.f_Controller 4).bind fun y2 =>
    (L_mcase_Mod x0.f_Role 3).bind fun y3 =>
    (idx (([1, 2, 7] : List Int).length) y3).bind fun k1 =>
    (uremM x0.f_Election.f_Lo (6#64)).bind fun y4 =>
    (some (({ ({ x0 with f_Controller := y2 } : T_law20_Op) with f_Role := lget ([1, 2, 7] : List Int) k1 } : T_law20_Op))).bind fun z1 =>
    (some (({ z1 with f_Election := ({ (default : T_api_Value) with f_Lo := y4 } : T_api_Value) } : T_law20_Op))).bind fun z2 =>
    some z2) (
    some x0)).bind fun m1 =>
  some m1
def L_session_controls (x0 : Int) : Option Bool :=
  some ((decide (x0 ≥ 0)) && (decide (x0 < 6)))
def L_session_of_fn1 (x0 : T_session_Session) (x1 : Int) : Option Bool :=
  some (x0.f_Controller == x1)
def L_slices_IndexFunc_session_Session (x0 : List T_session_Session) (x1 : T_session_Session → Option Bool) : Option Int :=
  (loopM (σ := Int) (ε := (Int × Bool) ⊕ (Int × Int × Int × Bool × Bool)) FUEL (fun s1 =>
    cond (decide (s1 < (x0.length : Int))) (
      (idx x0.length s1).bind fun k1 =>
      (x1 (lget x0 k1)).bind fun y1 =>
      cond y1 (
        some (.inr (Sum.inr (s1, s1, s1, decide (s1 < (x0.length : Int)), y1)))) (
        some (.inl (w64 (s1 + 1))))) (
      some (.inr (Sum.inl (s1, decide (s1 < (x0.length : Int))))))) 0).bind fun e1 =>
    Sum.elim (fun e1 =>
      some (-1)) (fun e1 =>
    some e1.1) e1
def L_session_of (x0 : T_session_State) (x1 : Int) : Option (T_session_Session × Bool) :=
  (L_slices_IndexFunc_session_Session x0.f_Sessions (fun a0 => L_session_of_fn1 a0 x1)).bind fun y1 =>
  cond (decide (y1 < 0)) (
    some ((default : T_session_Session), false)) (
    (idx x0.f_Sessions.length y1).bind fun k1 =>
    some (lget x0.f_Sessions k1, true))
def L_slices_Clone_session_Session (x0 : List T_session_Session) : Option (List T_session_Session) :=
  (appM 32 ([] : List T_session_Session) x0).bind fun y1 =>
  some y1
def L_session_Leave_fn1 (x0 : T_session_Session) (x1 : Int) : Option Bool :=
  some (x0.f_Controller == x1)
def Lp0_slices_DeleteFunc_session_Session (x0 : List T_session_Session) (x1 : T_session_Session → Option Bool) : Option (List T_session_Session) :=
  (L_slices_IndexFunc_session_Session x0 x1).bind fun y1 =>
  cond (y1 == (-1)) (
    some x0) (
    (loopM (σ := Int × Int × (List T_session_Session)) (ε := (Int × Int × Bool × (List T_session_Session))) FUEL (fun s1 =>
      cond (decide (s1.2.1 < (s1.2.2.length : Int))) (
        (idx s1.2.2.length s1.2.1).bind fun k1 =>
        (x1 (lget s1.2.2 k1)).bind fun y2 =>
        (cond (!y2) (
          (idx s1.2.2.length s1.1).bind fun k2 =>
          some (w64 (s1.1 + 1), lset s1.2.2 k2 (lget s1.2.2 k1))) (
          some (s1.1, s1.2.2))).bind fun m1 =>
        some (.inl (m1.1, w64 (s1.2.1 + 1), m1.2))) (
        some (.inr (s1.1, s1.2.1, decide (s1.2.1 < (s1.2.2.length : Int)), s1.2.2)))) (y1, w64 (y1 + 1), x0)).bind fun e1 =>
    (cutM e1.2.2.2.length e1.1 (e1.2.2.2.length : Int)).bind fun y3 =>
    (some (lclear e1.2.2.2 y3.1 (y3.2 - y3.1))).bind fun z1 =>
    (idx (z1.length + 1) e1.1).bind fun k3 =>
    (some (z1.take k3)).bind fun z2 =>
    some z2)
def L_slices_Clone_session_Top (x0 : List T_session_Top) : Option (List T_session_Top) :=
  (appM 24 ([] : List T_session_Top) x0).bind fun y1 =>
  some y1
def L_session_Leave (x0 : T_session_State) (x1 : Int) : Option (T_session_State × Int) :=
  (L_session_controls x1).bind fun y1 =>
  cond (!y1) (
    some ((default : T_session_State), 4)) (
    (L_session_of x0 x1).bind fun y2 =>
    cond (!y2.2) (
      some ((default : T_session_State), 25)) (
      (L_slices_Clone_session_Session x0.f_Sessions).bind fun y3 =>
      (Lp0_slices_DeleteFunc_session_Session y3 (fun a0 => L_session_Leave_fn1 a0 x1)).bind fun y4 =>
      (L_slices_Clone_session_Top x0.f_Tops).bind fun y5 =>
      some ({ f_Sessions := y4, f_Tops := y5 : T_session_State }, 0)))
def L_ref20_of (x0 : T_ref20_State) (x1 : Int) : Option (T_ref20_Session × Bool) :=
  (loopM (σ := Int) (ε := (Int × Bool) ⊕ (Bool × Int × Bool × Bool × T_ref20_Session)) FUEL (fun s1 =>
    cond (decide (s1 < (x0.f_Sessions.length : Int))) (
      (idx x0.f_Sessions.length s1).bind fun k1 =>
      cond (((lget x0.f_Sessions k1).f_Controller) == x1) (
        some (.inr (Sum.inr (true, s1, decide (s1 < (x0.f_Sessions.length : Int)), ((lget x0.f_Sessions k1).f_Controller) == x1, (lget x0.f_Sessions k1))))) (
        some (.inl (w64 (s1 + 1))))) (
      some (.inr (Sum.inl (s1, decide (s1 < (x0.f_Sessions.length : Int))))))) 0).bind fun e1 =>
    Sum.elim (fun e1 =>
      some ((default : T_ref20_Session), false)) (fun e1 =>
    some (e1.2.2.2.2, e1.1)) e1
def L_ref20_without (x0 : T_ref20_State) (x1 : Int) : Option T_ref20_State :=
  (appM 24 ([] : List T_ref20_Top) x0.f_Tops).bind fun y1 =>
  (loopM (σ := Int × T_ref20_State × (List T_ref20_Session)) (ε := (Int × Bool × T_ref20_State × (List T_ref20_Session))) FUEL (fun s1 =>
    cond (decide (s1.1 < (x0.f_Sessions.length : Int))) (
      (idx x0.f_Sessions.length s1.1).bind fun k1 =>
      (cond (((lget x0.f_Sessions k1).f_Controller) != x1) (
        (appM 32 s1.2.2 [(lget x0.f_Sessions k1)]).bind fun y2 =>
        some (({ s1.2.1 with f_Sessions := [] } : T_ref20_State), y2)) (
        some (s1.2.1, s1.2.2))).bind fun m1 =>
      some (.inl (w64 (s1.1 + 1), m1.1, m1.2))) (
      some (.inr (s1.1, decide (s1.1 < (x0.f_Sessions.length : Int)), s1.2.1, s1.2.2)))) (0, ({ (default : T_ref20_State) with f_Tops := y1 } : T_ref20_State), ([] : List T_ref20_Session))).bind fun e1 =>
  some ({ e1.2.2.1 with f_Sessions := e1.2.2.2 } : T_ref20_State)
def L_ref20_Leave (x0 : T_ref20_State) (x1 : Int) : Option (T_ref20_State × Int) :=
  cond ((decide (x1 < 0)) || (decide (x1 ≥ 6))) (
    some ((default : T_ref20_State), 4)) (
    (L_ref20_of x0 x1).bind fun y1 =>
    cond (!y1.2) (
      some ((default : T_ref20_State), 25)) (
      (L_ref20_without x0 x1).bind fun y2 =>
      some (y2, 0)))
def L_session_Arbitrate_fn1 (x0 : T_session_Session) (x1 : Int) (x2 : Int) (x3 : T_api_Value) : Option Bool :=
  (some (((x0.f_Controller != x1) && (x0.f_Role == x2)) && (decide (x0.f_Election = x3)))).bind fun z1 =>
  some z1
def L_check_RoleOf_fn1 (x0 : T_api_Role) (x1 : Int) : Option Bool :=
  some (x0.f_ID == x1)
def L_slices_IndexFunc_api_Role (x0 : List T_api_Role) (x1 : T_api_Role → Option Bool) : Option Int :=
  (loopM (σ := Int) (ε := (Int × Bool) ⊕ (Int × Int × Int × Bool × Bool)) FUEL (fun s1 =>
    cond (decide (s1 < (x0.length : Int))) (
      (idx x0.length s1).bind fun k1 =>
      (x1 (lget x0 k1)).bind fun y1 =>
      cond y1 (
        some (.inr (Sum.inr (s1, s1, s1, decide (s1 < (x0.length : Int)), y1)))) (
        some (.inl (w64 (s1 + 1))))) (
      some (.inr (Sum.inl (s1, decide (s1 < (x0.length : Int))))))) 0).bind fun e1 =>
    Sum.elim (fun e1 =>
      some (-1)) (fun e1 =>
    some e1.1) e1
def L_check_RoleOf (x0 : T_api_Schema) (x1 : Int) : Option Int :=
  (L_slices_IndexFunc_api_Role x0.f_Roles (fun a0 => L_check_RoleOf_fn1 a0 x1)).bind fun y1 =>
  some y1
def L_slices_ContainsFunc_session_Session (x0 : List T_session_Session) (x1 : T_session_Session → Option Bool) : Option Bool :=
  (L_slices_IndexFunc_session_Session x0 x1).bind fun y1 =>
  some (decide (y1 ≥ 0))
def L_session_top_fn1 (x0 : T_session_Top) (x1 : Int) : Option Bool :=
  some (x0.f_Role == x1)
def L_slices_IndexFunc_session_Top (x0 : List T_session_Top) (x1 : T_session_Top → Option Bool) : Option Int :=
  (loopM (σ := Int) (ε := (Int × Bool) ⊕ (Int × Int × Int × Bool × Bool)) FUEL (fun s1 =>
    cond (decide (s1 < (x0.length : Int))) (
      (idx x0.length s1).bind fun k1 =>
      (x1 (lget x0 k1)).bind fun y1 =>
      cond y1 (
        some (.inr (Sum.inr (s1, s1, s1, decide (s1 < (x0.length : Int)), y1)))) (
        some (.inl (w64 (s1 + 1))))) (
      some (.inr (Sum.inl (s1, decide (s1 < (x0.length : Int))))))) 0).bind fun e1 =>
    Sum.elim (fun e1 =>
      some (-1)) (fun e1 =>
    some e1.1) e1
def L_session_top (x0 : T_session_State) (x1 : Int) : Option T_api_Value :=
  (L_slices_IndexFunc_session_Top x0.f_Tops (fun a0 => L_session_top_fn1 a0 x1)).bind fun y1 =>
  cond (decide (y1 < 0)) (
    some (default : T_api_Value)) (
    (idx x0.f_Tops.length y1).bind fun k1 =>
    some ((lget x0.f_Tops k1).f_Election))
def L_value_Compare (x0 : T_api_Value) (x1 : T_api_Value) : Option Int :=
  cond (decide (x0 = x1)) (
    some 0) (
    (some ((decide (x0.f_Hi < x1.f_Hi)) || ((x0.f_Hi == x1.f_Hi) && (decide (x0.f_Lo < x1.f_Lo))))).bind fun z1 =>
    cond z1 (
      some (-1)) (
      some 1))
def L_session_replaced_session_Session_fn1 (x0 : T_session_Session) (x1 : T_session_Session → Option Int) (x2 : T_session_Session) : Option Bool :=
  (x1 x0).bind fun y1 =>
  (x1 x2).bind fun y2 =>
  some (y1 == y2)
def L_session_replaced_session_Session_fn2 (x0 : T_session_Session) (x1 : T_session_Session → Option Int) (x2 : T_session_Session) : Option Bool :=
  (x1 x0).bind fun y1 =>
  (x1 x2).bind fun y2 =>
  some (decide (y1 > y2))
def Lp0_2_slices_Insert_session_Session (x0 : List T_session_Session) (x1 : Int) (x2 : List T_session_Session) : Option (List T_session_Session) := insM 32 x0 x1 x2
def L_session_replaced_session_Session (x0 : List T_session_Session) (x1 : T_session_Session → Option Int) (x2 : T_session_Session) : Option (List T_session_Session) :=
  (L_slices_Clone_session_Session x0).bind fun y1 =>
  (Lp0_slices_DeleteFunc_session_Session y1 (fun a0 => L_session_replaced_session_Session_fn1 a0 x1 x2)).bind fun y2 =>
  (L_slices_IndexFunc_session_Session y2 (fun a0 => L_session_replaced_session_Session_fn2 a0 x1 x2)).bind fun y3 =>
  (cond (decide (y3 < 0)) (
    some (y2.length : Int)) (
    some y3)).bind fun m1 =>
  (Lp0_2_slices_Insert_session_Session y2 m1 [x2]).bind fun y4 =>
  some y4
def L_session_Arbitrate_fn2 (x0 : T_session_Session) : Option Int :=
  some x0.f_Controller
def L_session_replaced_session_Top_fn1 (x0 : T_session_Top) (x1 : T_session_Top → Option Int) (x2 : T_session_Top) : Option Bool :=
  (x1 x0).bind fun y1 =>
  (x1 x2).bind fun y2 =>
  some (y1 == y2)
def Lp0_slices_DeleteFunc_session_Top (x0 : List T_session_Top) (x1 : T_session_Top → Option Bool) : Option (List T_session_Top) :=
  (L_slices_IndexFunc_session_Top x0 x1).bind fun y1 =>
  cond (y1 == (-1)) (
    some x0) (
    (loopM (σ := Int × Int × (List T_session_Top)) (ε := (Int × Int × Bool × (List T_session_Top))) FUEL (fun s1 =>
      cond (decide (s1.2.1 < (s1.2.2.length : Int))) (
        (idx s1.2.2.length s1.2.1).bind fun k1 =>
        (x1 (lget s1.2.2 k1)).bind fun y2 =>
        (cond (!y2) (
          (idx s1.2.2.length s1.1).bind fun k2 =>
          some (w64 (s1.1 + 1), lset s1.2.2 k2 (lget s1.2.2 k1))) (
          some (s1.1, s1.2.2))).bind fun m1 =>
        some (.inl (m1.1, w64 (s1.2.1 + 1), m1.2))) (
        some (.inr (s1.1, s1.2.1, decide (s1.2.1 < (s1.2.2.length : Int)), s1.2.2)))) (y1, w64 (y1 + 1), x0)).bind fun e1 =>
    (cutM e1.2.2.2.length e1.1 (e1.2.2.2.length : Int)).bind fun y3 =>
    (some (lclear e1.2.2.2 y3.1 (y3.2 - y3.1))).bind fun z1 =>
    (idx (z1.length + 1) e1.1).bind fun k3 =>
    (some (z1.take k3)).bind fun z2 =>
    some z2)
def L_session_replaced_session_Top_fn2 (x0 : T_session_Top) (x1 : T_session_Top → Option Int) (x2 : T_session_Top) : Option Bool :=
  (x1 x0).bind fun y1 =>
  (x1 x2).bind fun y2 =>
  some (decide (y1 > y2))
def Lp0_2_slices_Insert_session_Top (x0 : List T_session_Top) (x1 : Int) (x2 : List T_session_Top) : Option (List T_session_Top) := insM 24 x0 x1 x2
def L_session_replaced_session_Top (x0 : List T_session_Top) (x1 : T_session_Top → Option Int) (x2 : T_session_Top) : Option (List T_session_Top) :=
  (L_slices_Clone_session_Top x0).bind fun y1 =>
  (Lp0_slices_DeleteFunc_session_Top y1 (fun a0 => L_session_replaced_session_Top_fn1 a0 x1 x2)).bind fun y2 =>
  (L_slices_IndexFunc_session_Top y2 (fun a0 => L_session_replaced_session_Top_fn2 a0 x1 x2)).bind fun y3 =>
  (cond (decide (y3 < 0)) (
    some (y2.length : Int)) (
    some y3)).bind fun m1 =>
  (Lp0_2_slices_Insert_session_Top y2 m1 [x2]).bind fun y4 =>
  some y4
def L_session_Arbitrate_fn3 (x0 : T_session_Top) : Option Int :=
  some x0.f_Role
def L_session_Arbitrate (x0 : T_session_State) (x1 : T_api_Schema) (x2 : Int) (x3 : Int) (x4 : T_api_Value) : Option (T_session_State × Bool × Int) :=
  (L_session_controls x2).bind fun y1 =>
  cond (!y1) (
    some ((default : T_session_State), false, 4)) (
    (L_check_RoleOf x1 x3).bind fun y2 =>
    cond (decide (y2 < 0)) (
      some ((default : T_session_State), false, 21)) (
      (condM (decide (x4 = (default : T_api_Value))) false (L_slices_ContainsFunc_session_Session x0.f_Sessions (fun a0 => L_session_Arbitrate_fn1 a0 x2 x3 x4))).bind fun y3 =>
      cond ((decide (x4 = (default : T_api_Value))) || y3) (
        some ((default : T_session_State), false, 23)) (
        (L_session_top x0 x3).bind fun y4 =>
        (L_value_Compare y4 x4).bind fun y5 =>
        (cond (decide (y5 < 0)) (
          some x4) (
          some y4)).bind fun m1 =>
        (some ({ f_Controller := x2, f_Role := x3, f_Election := x4 : T_session_Session })).bind fun z1 =>
        (L_session_replaced_session_Session x0.f_Sessions L_session_Arbitrate_fn2 z1).bind fun y6 =>
        (L_session_replaced_session_Top x0.f_Tops L_session_Arbitrate_fn3 ({ f_Role := x3, f_Election := m1 : T_session_Top })).bind fun y7 =>
        some (({ f_Sessions := y6, f_Tops := y7 : T_session_State }), decide (m1 = x4), 0))))
def L_ref04_ids (x0 : T_api_Schema) : Option (Vector (List Int) 6) :=
  (loopM (σ := Int × (List Int) × (Vector (List Int) 6)) (ε := (Int × Bool × (List Int) × (Vector (List Int) 6))) FUEL (fun s1 =>
    cond (decide (s1.1 < (x0.f_Fields.length : Int))) (
      (idx x0.f_Fields.length s1.1).bind fun k1 =>
      (appM 8 s1.2.1 [(lget x0.f_Fields k1).f_ID]).bind fun y1 =>
      some (.inl (w64 (s1.1 + 1), y1, vset s1.2.2 0 []))) (
      some (.inr (s1.1, decide (s1.1 < (x0.f_Fields.length : Int)), s1.2.1, s1.2.2)))) (0, ([] : List Int), (default : Vector (List Int) 6))).bind fun e1 =>
  (loopM (σ := Int × (List Int) × (Vector (List Int) 6)) (ε := (Int × Bool × (List Int) × (Vector (List Int) 6))) FUEL (fun s2 =>
    cond (decide (s2.1 < (x0.f_Headers.length : Int))) (
      (idx x0.f_Headers.length s2.1).bind fun k2 =>
      (appM 8 s2.2.1 [(lget x0.f_Headers k2).f_ID]).bind fun y2 =>
      some (.inl (w64 (s2.1 + 1), y2, vset s2.2.2 1 []))) (
      some (.inr (s2.1, decide (s2.1 < (x0.f_Headers.length : Int)), s2.2.1, s2.2.2)))) (0, ([] : List Int), e1.2.2.2)).bind fun e2 =>
  (loopM (σ := Int × (List Int) × (Vector (List Int) 6)) (ε := (Int × Bool × (List Int) × (Vector (List Int) 6))) FUEL (fun s3 =>
    cond (decide (s3.1 < (x0.f_States.length : Int))) (
      (idx x0.f_States.length s3.1).bind fun k3 =>
      (appM 8 s3.2.1 [(lget x0.f_States k3).f_ID]).bind fun y3 =>
      some (.inl (w64 (s3.1 + 1), y3, vset s3.2.2 2 []))) (
      some (.inr (s3.1, decide (s3.1 < (x0.f_States.length : Int)), s3.2.1, s3.2.2)))) (0, ([] : List Int), e2.2.2.2)).bind fun e3 =>
  (loopM (σ := Int × (List Int) × (Vector (List Int) 6)) (ε := (Int × Bool × (List Int) × (Vector (List Int) 6))) FUEL (fun s4 =>
    cond (decide (s4.1 < (x0.f_Actions.length : Int))) (
      (idx x0.f_Actions.length s4.1).bind fun k4 =>
      (appM 8 s4.2.1 [(lget x0.f_Actions k4).f_ID]).bind fun y4 =>
      some (.inl (w64 (s4.1 + 1), y4, vset s4.2.2 3 []))) (
      some (.inr (s4.1, decide (s4.1 < (x0.f_Actions.length : Int)), s4.2.1, s4.2.2)))) (0, ([] : List Int), e3.2.2.2)).bind fun e4 =>
  (loopM (σ := Int × (List Int) × (Vector (List Int) 6)) (ε := (Int × Bool × (List Int) × (Vector (List Int) 6))) FUEL (fun s5 =>
    cond (decide (s5.1 < (x0.f_Tables.length : Int))) (
      (idx x0.f_Tables.length s5.1).bind fun k5 =>
      (appM 8 s5.2.1 [(lget x0.f_Tables k5).f_ID]).bind fun y5 =>
      some (.inl (w64 (s5.1 + 1), y5, vset s5.2.2 4 []))) (
      some (.inr (s5.1, decide (s5.1 < (x0.f_Tables.length : Int)), s5.2.1, s5.2.2)))) (0, ([] : List Int), e4.2.2.2)).bind fun e5 =>
  (loopM (σ := Int × (List Int) × (Vector (List Int) 6)) (ε := (Int × Bool × (List Int) × (Vector (List Int) 6))) FUEL (fun s6 =>
    cond (decide (s6.1 < (x0.f_Roles.length : Int))) (
      (idx x0.f_Roles.length s6.1).bind fun k6 =>
      (appM 8 s6.2.1 [(lget x0.f_Roles k6).f_ID]).bind fun y6 =>
      some (.inl (w64 (s6.1 + 1), y6, vset s6.2.2 5 []))) (
      some (.inr (s6.1, decide (s6.1 < (x0.f_Roles.length : Int)), s6.2.1, s6.2.2)))) (0, ([] : List Int), e5.2.2.2)).bind fun e6 =>
  (some ((vset (vset (vset (vset (vset (vset e6.2.2.2 0 e1.2.2.1) 1 e2.2.2.1) 2 e3.2.2.1) 3 e4.2.2.1) 4 e5.2.2.1) 5 e6.2.2.1))).bind fun z1 =>
  some z1
def L_ref04_index (x0 : List Int) (x1 : Int) : Option Int :=
  (loopM (σ := Int) (ε := (Int × Bool) ⊕ (Int × Int × Int × Int × Bool × Bool)) FUEL (fun s1 =>
    cond (decide (s1 < (x0.length : Int))) (
      (idx x0.length s1).bind fun k1 =>
      cond ((lget x0 k1) == x1) (
        some (.inr (Sum.inr (s1, s1, lget x0 k1, s1, decide (s1 < (x0.length : Int)), (lget x0 k1) == x1)))) (
        some (.inl (w64 (s1 + 1))))) (
      some (.inr (Sum.inl (s1, decide (s1 < (x0.length : Int))))))) 0).bind fun e1 =>
    Sum.elim (fun e1 =>
      some (-1)) (fun e1 =>
    some e1.1) e1
def L_ref04_RoleOf (x0 : T_api_Schema) (x1 : Int) : Option Int :=
  (L_ref04_ids x0).bind fun y1 =>
  (L_ref04_index (vget y1 5) x1).bind fun y2 =>
  some y2
def L_ref20_top (x0 : T_ref20_State) (x1 : Int) : Option T_api_Value :=
  (loopM (σ := Int) (ε := (Int × Bool) ⊕ (Int × Bool × Bool × T_api_Value)) FUEL (fun s1 =>
    cond (decide (s1 < (x0.f_Tops.length : Int))) (
      (idx x0.f_Tops.length s1).bind fun k1 =>
      cond (((lget x0.f_Tops k1).f_Role) == x1) (
        some (.inr (Sum.inr (s1, decide (s1 < (x0.f_Tops.length : Int)), ((lget x0.f_Tops k1).f_Role) == x1, (lget x0.f_Tops k1).f_Election)))) (
        some (.inl (w64 (s1 + 1))))) (
      some (.inr (Sum.inl (s1, decide (s1 < (x0.f_Tops.length : Int))))))) 0).bind fun e1 =>
    Sum.elim (fun e1 =>
      some (default : T_api_Value)) (fun e1 =>
    some e1.2.2.2) e1
def L_ref01_Read (x0 : T_api_Value) : Option (Vector Bool 128) :=
  (loopM (σ := Int × (Vector Bool 128)) (ε := (Int × Bool × (Vector Bool 128))) FUEL (fun s1 =>
    cond (decide (s1.1 < 64)) (
      (idx 128 s1.1).bind fun k1 =>
      (some (vset s1.2 k1 (((x0.f_Lo >>> (BitVec.ofInt 64 s1.1).toNat) &&& (1#64)) == (1#64)))).bind fun z1 =>
      (idx 128 (w64 (s1.1 + 64))).bind fun k2 =>
      (some (vset z1 k2 (((x0.f_Hi >>> (BitVec.ofInt 64 s1.1).toNat) &&& (1#64)) == (1#64)))).bind fun z2 =>
      some (.inl (w64 (s1.1 + 1), z2))) (
      some (.inr (s1.1, decide (s1.1 < 64), s1.2)))) (0, (default : Vector Bool 128))).bind fun e1 =>
  some e1.2.2
def L_ref01_Compare (x0 : T_api_Value) (x1 : T_api_Value) : Option Int :=
  (L_ref01_Read x0).bind fun y1 =>
  (L_ref01_Read x1).bind fun y2 =>
  (loopM (σ := Int) (ε := (Int × Bool) ⊕ (Int × Int × Bool × Bool × Bool)) FUEL (fun s1 =>
    cond (decide (s1 ≥ 0)) (
      (idx 128 s1).bind fun k1 =>
      (idx 128 s1).bind fun k2 =>
      cond ((vget y1 k1) != (vget y2 k2)) (
        (idx 128 s1).bind fun k3 =>
        cond (vget y2 k3) (
          some (.inr (Sum.inr ((-1), s1, decide (s1 ≥ 0), (vget y1 k1) != (vget y2 k2), vget y2 k3)))) (
          some (.inr (Sum.inr (1, s1, decide (s1 ≥ 0), (vget y1 k1) != (vget y2 k2), vget y2 k3))))) (
        some (.inl (w64 (s1 - 1))))) (
      some (.inr (Sum.inl (s1, decide (s1 ≥ 0)))))) 127).bind fun e1 =>
    Sum.elim (fun e1 =>
      some 0) (fun e1 =>
    some e1.1) e1
def Lp0_ref20_raise (x0 : List T_ref20_Top) (x1 : Int) (x2 : T_api_Value) : Option (List T_ref20_Top) :=
  (loopM (σ := Int) (ε := (Int × Bool)) FUEL (fun s1 =>
    (condM (decide (s1 < (x0.length : Int))) true (idx x0.length s1)).bind fun k1 =>
    (some ((decide (s1 < (x0.length : Int))) && (decide (((lget x0 k1).f_Role) < x1)))).bind fun z1 =>
    cond z1 (
      some (.inl (w64 (s1 + 1)))) (
      some (.inr (s1, z1)))) 0).bind fun e1 =>
  (condM (decide (e1.1 < (x0.length : Int))) true (idx x0.length e1.1)).bind fun k2 =>
  cond ((decide (e1.1 < (x0.length : Int))) && (((lget x0 k2).f_Role) == x1)) (
    (idx x0.length e1.1).bind fun k3 =>
    some (lset x0 k3 ({ (lget x0 k3) with f_Election := x2 } : T_ref20_Top))) (
    (sliceM x0 0 e1.1).bind fun y1 =>
    (appM 24 ([] : List T_ref20_Top) y1).bind fun y2 =>
    (appM 24 y2 [{ f_Role := x1, f_Election := x2 : T_ref20_Top }]).bind fun y3 =>
    (sliceM x0 e1.1 x0.length).bind fun y4 =>
    (appM 24 y3 y4).bind fun y5 =>
    some y5)
def Lq0_1_ref20_without (x0 : T_ref20_State) (x1 : Int) : Option T_ref20_State :=
  (appM 24 ([] : List T_ref20_Top) x0.f_Tops).bind fun y1 =>
  (loopM (σ := Int × T_ref20_State × (List T_ref20_Session)) (ε := (Int × Bool × T_ref20_State × (List T_ref20_Session))) FUEL (fun s1 =>
    cond (decide (s1.1 < (x0.f_Sessions.length : Int))) (
      (idx x0.f_Sessions.length s1.1).bind fun k1 =>
      (cond (((lget x0.f_Sessions k1).f_Controller) != x1) (
        (appM 32 s1.2.2 [(lget x0.f_Sessions k1)]).bind fun y2 =>
        some (({ s1.2.1 with f_Sessions := [] } : T_ref20_State), y2)) (
        some (s1.2.1, s1.2.2))).bind fun m1 =>
      some (.inl (w64 (s1.1 + 1), m1.1, m1.2))) (
      some (.inr (s1.1, decide (s1.1 < (x0.f_Sessions.length : Int)), s1.2.1, s1.2.2)))) (0, (default : T_ref20_State), ([] : List T_ref20_Session))).bind fun e1 =>
  some ({ ({ e1.2.2.1 with f_Sessions := e1.2.2.2 } : T_ref20_State) with f_Tops := y1 } : T_ref20_State)
def L_ref20_Primary (x0 : T_ref20_State) (x1 : Int) : Option (Int × Bool) :=
  (loopM (σ := Int) (ε := (Int × Bool) ⊕ (Int × Bool × Int × Bool × Bool)) FUEL (fun s1 =>
    cond (decide (s1 < (x0.f_Sessions.length : Int))) (
      (idx x0.f_Sessions.length s1).bind fun k1 =>
      (condM (((lget x0.f_Sessions k1).f_Role) == x1) true (L_ref20_top x0 x1)).bind fun y1 =>
      (some ((((lget x0.f_Sessions k1).f_Role) == x1) && (decide ((lget x0.f_Sessions k1).f_Election = y1)))).bind fun z1 =>
      cond z1 (
        some (.inr (Sum.inr ((lget x0.f_Sessions k1).f_Controller, true, s1, decide (s1 < (x0.f_Sessions.length : Int)), z1)))) (
        some (.inl (w64 (s1 + 1))))) (
      some (.inr (Sum.inl (s1, decide (s1 < (x0.f_Sessions.length : Int))))))) 0).bind fun e1 =>
    Sum.elim (fun e1 =>
      some (0, false)) (fun e1 =>
    some (e1.1, e1.2.1)) e1
def L_ref20_Arbitrate (x0 : T_ref20_State) (x1 : T_api_Schema) (x2 : Int) (x3 : Int) (x4 : T_api_Value) : Option (T_ref20_State × Bool × Int) :=
  cond ((decide (x2 < 0)) || (decide (x2 ≥ 6))) (
    some ((default : T_ref20_State), false, 4)) (
    (L_ref04_RoleOf x1 x3).bind fun y1 =>
    cond (decide (y1 < 0)) (
      some ((default : T_ref20_State), false, 21)) (
      (loopM (σ := Int) (ε := (Int × Bool) ⊕ (Int × Int × Bool × Bool)) FUEL (fun s1 =>
        cond (decide (s1 < (x0.f_Sessions.length : Int))) (
          (idx x0.f_Sessions.length s1).bind fun k1 =>
          (some ((((lget x0.f_Sessions k1).f_Controller) != x2) && (((lget x0.f_Sessions k1).f_Role) == x3))).bind fun z1 =>
          cond (z1 && (decide ((lget x0.f_Sessions k1).f_Election = x4))) (
            some (.inr (Sum.inr (23, s1, decide (s1 < (x0.f_Sessions.length : Int)), z1 && (decide ((lget x0.f_Sessions k1).f_Election = x4)))))) (
            some (.inl (w64 (s1 + 1))))) (
          some (.inr (Sum.inl (s1, decide (s1 < (x0.f_Sessions.length : Int))))))) 0).bind fun e1 =>
        Sum.elim (fun e1 =>
          cond (decide (x4 = (default : T_api_Value))) (
            some ((default : T_ref20_State), false, 23)) (
            (Lq0_1_ref20_without x0 x2).bind fun y2 =>
            (loopM (σ := Int) (ε := (Int × Bool)) FUEL (fun s2 =>
              (condM (decide (s2 < (y2.f_Sessions.length : Int))) true (idx y2.f_Sessions.length s2)).bind fun k2 =>
              (some ((decide (s2 < (y2.f_Sessions.length : Int))) && (decide (((lget y2.f_Sessions k2).f_Controller) < x2)))).bind fun z2 =>
              cond z2 (
                some (.inl (w64 (s2 + 1)))) (
                some (.inr (s2, z2)))) 0).bind fun e2 =>
            (sliceM y2.f_Sessions 0 e2.1).bind fun y3 =>
            (appM 32 ([] : List T_ref20_Session) y3).bind fun y4 =>
            (some ({ f_Controller := x2, f_Role := x3, f_Election := x4 : T_ref20_Session })).bind fun z3 =>
            (appM 32 y4 [z3]).bind fun y5 =>
            (sliceM y2.f_Sessions e2.1 y2.f_Sessions.length).bind fun y6 =>
            (appM 32 y5 y6).bind fun y7 =>
            (L_ref20_top x0 x3).bind fun y8 =>
            (L_ref01_Compare x4 y8).bind fun y9 =>
            (cond (decide (y9 > 0)) (
              (Lp0_ref20_raise y2.f_Tops x3 x4).bind fun y11 =>
              some (({ ({ ({ y2 with f_Tops := [] } : T_ref20_State) with f_Sessions := y7 } : T_ref20_State) with f_Tops := [] } : T_ref20_State), y11)) (
              some (({ ({ y2 with f_Tops := [] } : T_ref20_State) with f_Sessions := y7 } : T_ref20_State), y2.f_Tops))).bind fun m1 =>
            (L_ref20_Primary ({ m1.1 with f_Tops := m1.2 } : T_ref20_State) x3).bind fun y10 =>
            some (({ m1.1 with f_Tops := m1.2 } : T_ref20_State), y10.2 && (y10.1 == x2), 0))) (fun e1 =>
        some ((default : T_ref20_State), false, e1.1)) e1))
def L_law20_same (x0 : T_session_State) (x1 : T_ref20_State) : Option Bool :=
  (some (((x0.f_Sessions.length : Int) != (x1.f_Sessions.length : Int)) || ((x0.f_Tops.length : Int) != (x1.f_Tops.length : Int)))).bind fun z1 =>
  cond z1 (
    some false) (
    (loopM (σ := Int) (ε := (Int × Bool) ⊕ (Int × Int × Bool × Bool)) FUEL (fun s1 =>
      cond (decide (s1 < (x0.f_Sessions.length : Int))) (
        (idx x0.f_Sessions.length s1).bind fun k1 =>
        (some ({ f_Controller := (lget x0.f_Sessions k1).f_Controller, f_Role := (lget x0.f_Sessions k1).f_Role, f_Election := (lget x0.f_Sessions k1).f_Election : T_ref20_Session })).bind fun z2 =>
        (idx x1.f_Sessions.length s1).bind fun k2 =>
        cond (!decide (z2 = lget x1.f_Sessions k2)) (
          some (.inr (Sum.inr (s1, s1, decide (s1 < (x0.f_Sessions.length : Int)), !decide (z2 = lget x1.f_Sessions k2))))) (
          some (.inl (w64 (s1 + 1))))) (
        some (.inr (Sum.inl (s1, decide (s1 < (x0.f_Sessions.length : Int))))))) 0).bind fun e1 =>
      Sum.elim (fun e1 =>
        (loopM (σ := Int) (ε := (Int × Bool) ⊕ (Int × Int × Bool × Bool)) FUEL (fun s2 =>
          cond (decide (s2 < (x0.f_Tops.length : Int))) (
            (idx x0.f_Tops.length s2).bind fun k3 =>
            (some ({ f_Role := (lget x0.f_Tops k3).f_Role, f_Election := (lget x0.f_Tops k3).f_Election : T_ref20_Top })).bind fun z3 =>
            (idx x1.f_Tops.length s2).bind fun k4 =>
            cond (!decide (z3 = lget x1.f_Tops k4)) (
              some (.inr (Sum.inr (s2, s2, decide (s2 < (x0.f_Tops.length : Int)), !decide (z3 = lget x1.f_Tops k4))))) (
              some (.inl (w64 (s2 + 1))))) (
            some (.inr (Sum.inl (s2, decide (s2 < (x0.f_Tops.length : Int))))))) 0).bind fun e2 =>
          Sum.elim (fun e2 =>
            some true) (fun e2 =>
          some false) e2) (fun e1 =>
      some false) e1)
def L_session_Primary (x0 : T_session_State) (x1 : Int) : Option (Int × Bool) :=
  (L_session_top x0 x1).bind fun y1 =>
  (loopM (σ := Int) (ε := (Int × Bool) ⊕ (Int × Bool × Int × Bool × Bool)) FUEL (fun s1 =>
    cond (decide (s1 < (x0.f_Sessions.length : Int))) (
      (idx x0.f_Sessions.length s1).bind fun k1 =>
      (some ((((lget x0.f_Sessions k1).f_Role) == x1) && (decide ((lget x0.f_Sessions k1).f_Election = y1)))).bind fun z1 =>
      cond z1 (
        some (.inr (Sum.inr ((lget x0.f_Sessions k1).f_Controller, true, s1, decide (s1 < (x0.f_Sessions.length : Int)), z1)))) (
        some (.inl (w64 (s1 + 1))))) (
      some (.inr (Sum.inl (s1, decide (s1 < (x0.f_Sessions.length : Int))))))) 0).bind fun e1 =>
    Sum.elim (fun e1 =>
      some (0, false)) (fun e1 =>
    some (e1.1, e1.2.1)) e1
def L_law20_begun  : Option Bool :=
  (L_mcase_New ([] : List (BitVec 8)) 0).bind fun y1 =>
  (L_mcase_Codes_Schema y1).bind fun y2 =>
  (L_session_Arbitrate (default : T_session_State) y2.1 0 1 ({ (default : T_api_Value) with f_Lo := 5#64 } : T_api_Value)).bind fun y3 =>
  (L_session_Arbitrate y3.1 y2.1 1 1 ({ (default : T_api_Value) with f_Lo := 3#64 } : T_api_Value)).bind fun y4 =>
  (L_session_Leave y4.1 0).bind fun y5 =>
  (L_session_Primary y5.1 1).bind fun y6 =>
  (L_session_Arbitrate y5.1 y2.1 1 1 ({ (default : T_api_Value) with f_Lo := 5#64 } : T_api_Value)).bind fun y7 =>
  some ((((y3.2.1 && (!y4.2.1)) && (!y6.2)) && y7.2.1) && (y7.2.2 == 0))
def L_law20_SessionCalls (x0 : List (BitVec 8)) (x1 : List T_law20_Op) : Option Bool :=
  (L_mcase_New x0 120).bind fun y1 =>
  (L_mcase_Codes_Schema y1).bind fun y2 =>
  (sliceM x1 0 (min (x1.length : Int) 24)).bind fun y3 =>
  (loopM (σ := Int × T_ref20_State × T_session_State) (ε := (Int × Bool × T_ref20_State × T_session_State) ⊕ (Bool × Bool × Int × Int × Int × Bool × Bool × Bool × T_ref20_State × T_session_State)) FUEL (fun s1 =>
    cond (decide (s1.1 < (y3.length : Int))) (
      (idx y3.length s1.1).bind fun k1 =>
      (L_law20_Op_near (lget y3 k1)).bind fun y4 =>
      (uremM y4.f_Kind (4#8)).bind fun y5 =>
      (cond (y5 == (0#8)) (
        (L_session_Leave s1.2.2 y4.f_Controller).bind fun y7 =>
        (L_ref20_Leave s1.2.1 y4.f_Controller).bind fun y8 =>
        some (false, false, y7.2, y8.2, y8.1, y7.1)) (
        (L_session_Arbitrate s1.2.2 y2.1 y4.f_Controller y4.f_Role y4.f_Election).bind fun y9 =>
        (L_ref20_Arbitrate s1.2.1 y2.1 y4.f_Controller y4.f_Role y4.f_Election).bind fun y10 =>
        some (y9.2.1, y10.2.1, y9.2.2, y10.2.2, y10.1, y9.1))).bind fun m1 =>
      (condM ((m1.2.2.1 != m1.2.2.2.1) || (m1.1 != m1.2.1)) false (L_law20_same m1.2.2.2.2.2 m1.2.2.2.2.1)).bind fun y6 =>
      cond (((m1.2.2.1 != m1.2.2.2.1) || (m1.1 != m1.2.1)) || (!y6)) (
        some (.inr (Sum.inr (m1.1, m1.2.1, m1.2.2.1, m1.2.2.2.1, s1.1, decide (s1.1 < (y3.length : Int)), y5 == (0#8), ((m1.2.2.1 != m1.2.2.2.1) || (m1.1 != m1.2.1)) || (!y6), s1.2.1, s1.2.2)))) (
        (cond (m1.2.2.1 == 0) (
          some (m1.2.2.2.2.1, m1.2.2.2.2.2)) (
          some (s1.2.1, s1.2.2))).bind fun m2 =>
        some (.inl (w64 (s1.1 + 1), m2.1, m2.2)))) (
      some (.inr (Sum.inl (s1.1, decide (s1.1 < (y3.length : Int)), s1.2.1, s1.2.2))))) (0, (default : T_ref20_State), (default : T_session_State))).bind fun e1 =>
    Sum.elim (fun e1 =>
      (L_law20_begun).bind fun y11 =>
      some y11) (fun e1 =>
    some false) e1
end Go.Proofs.Ytodajdohokmjnaa
