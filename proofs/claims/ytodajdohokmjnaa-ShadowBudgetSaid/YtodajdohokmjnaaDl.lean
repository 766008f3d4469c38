/-
  Printed by the decompiler (dec.py) out of the seat's translation. Each function of the translation as a functional program. Conditions: none.
-/
import Derived.Test.YtodajdohokmjnaaDt
namespace Go.Proofs.Ytodajdohokmjnaa
open Go Gv
set_option linter.unusedVariables false
set_option linter.unusedSimpArgs false
set_option maxRecDepth 100000
def L_mcase_New (x0 : List (BitVec 8)) (x1 : Int) : Option T_mcase_Codes :=
  (sliceM x0 0 (min (x0.length : Int) x1)).bind fun y1 =>
  some ({ (default : T_mcase_Codes) with f_l := y1 } : T_mcase_Codes)
def L_mcase_Codes_Left (x0 : T_mcase_Codes) : Option Bool :=
  some (decide (x0.f_at < (x0.f_l.length : Int)))
def L_mcase_Codes_Next (x0 : T_mcase_Codes) (x1 : Int) : Option (Int × T_mcase_Codes) :=
  (L_mcase_Codes_Left x0).bind fun y1 =>
  cond ((!y1) || (decide (x1 < 1))) (
    some (0, x0)) (
    (idx x0.f_l.length (w64 ((w64 (x0.f_at + 1)) - 1))).bind fun k1 =>
    (modM ((lget x0.f_l k1).toNat : Int) x1).bind fun y2 =>
    some (y2, ({ x0 with f_at := w64 (x0.f_at + 1) } : T_mcase_Codes)))
def L_mcase_Codes_Bool (x0 : T_mcase_Codes) : Option (Bool × T_mcase_Codes) :=
  (L_mcase_Codes_Next x0 2).bind fun y1 =>
  some (y1.1 == 1, y1.2)
def L_mcase_Codes_states (x0 : T_mcase_Codes) : Option ((List T_api_State) × T_mcase_Codes) :=
  (L_mcase_Codes_Next x0 4).bind fun y1 =>
  (idx (([0, 0, 65535, 3] : List Int).length) y1.1).bind fun k1 =>
  (some ({ f_Value := ({ (default : T_api_Value) with f_Lo := 1#64 } : T_api_Value), f_Mask := ({ (default : T_api_Value) with f_Lo := 15#64 } : T_api_Value), f_Next := 2 : T_api_Case })).bind fun z1 =>
  (some ({ f_Value := ({ (default : T_api_Value) with f_Lo := 2#64 } : T_api_Value), f_Mask := ({ (default : T_api_Value) with f_Lo := 3#64 } : T_api_Value), f_Next := 3 : T_api_Case })).bind fun z2 =>
  (L_mcase_Codes_Bool y1.2).bind fun y2 =>
  (cond y2.1 (
    (L_mcase_Codes_Next y2.2 2).bind fun y6 =>
    (some (({ (default : T_api_Value) with f_Lo := BitVec.ofInt 64 (w64 (8 * y6.1)) } : T_api_Value))).bind fun z7 =>
    (L_mcase_Codes_Next y6.2 4).bind fun y7 =>
    (idx (([0, 0, 65535, 3] : List Int).length) y7.1).bind fun k3 =>
    (some ({ f_Value := z7, f_Mask := ({ (default : T_api_Value) with f_Lo := 8#64 } : T_api_Value), f_Next := lget ([0, 0, 65535, 3] : List Int) k3 : T_api_Case })).bind fun z8 =>
    (appM 40 [z1, z2] [z8]).bind fun y8 =>
    some (y7.2, y8)) (
    some (y2.2, [z1, z2]))).bind fun m1 =>
  (L_mcase_Codes_Next m1.1 4).bind fun y3 =>
  (idx (([0, 0, 65535, 3] : List Int).length) y3.1).bind fun k2 =>
  (some (({ (default : T_api_State) with f_ID := 2, f_Header := 2, f_Default := lget ([0, 0, 65535, 3] : List Int) k2 } : T_api_State))).bind fun z3 =>
  (some (({ (default : T_api_State) with f_ID := 3, f_Header := 3, f_Select := 9, f_Default := 0 } : T_api_State))).bind fun z4 =>
  (L_mcase_Codes_Next y3.2 3).bind fun y4 =>
  (cond (y4.1 == 1) (
    (L_mcase_Codes_Next y4.2 3).bind fun y5 =>
    (some ({ f_Value := ({ (default : T_api_Value) with f_Lo := 5#64 } : T_api_Value), f_Mask := ({ (default : T_api_Value) with f_Lo := 15#64 } : T_api_Value), f_Next := w64 (1 + y5.1) : T_api_Case })).bind fun z6 =>
    some (y5.2, ({ z4 with f_Cases := [z6] } : T_api_State))) (
    some (y4.2, z4))).bind fun m2 =>
  (some (({ ({ (default : T_api_State) with f_ID := 1, f_Header := 1, f_Select := 4, f_Default := lget ([0, 0, 65535, 3] : List Int) k1 } : T_api_State) with f_Cases := m1.2 } : T_api_State))).bind fun z5 =>
  some ([z5, z3, m2.2], m2.1)
def L_mcase_Codes_actions (x0 : T_mcase_Codes) : Option ((List T_api_Action) × T_mcase_Codes) :=
  (some (({ (default : T_api_Action) with f_ID := 1, f_Name := ByteArray.mk #[110, 111, 112] } : T_api_Action))).bind fun z1 =>
  (some (({ (default : T_api_Action) with f_ID := 2, f_Name := ByteArray.mk #[100, 114, 111, 112], f_Body := [({ (default : T_api_Prim) with f_Op := 6 } : T_api_Prim)] } : T_api_Action))).bind fun z2 =>
  (some ({ f_Name := ByteArray.mk #[112, 111, 114, 116], f_Bits := 16 : T_api_Param })).bind fun z3 =>
  (some (({ (default : T_api_Prim) with f_Op := 7, f_Src := ({ (default : T_api_Operand) with f_Kind := 3 } : T_api_Operand) } : T_api_Prim))).bind fun z4 =>
  (some (({ (default : T_api_Action) with f_ID := 3, f_Name := ByteArray.mk #[102, 111, 114, 119, 97, 114, 100], f_Params := [z3], f_Body := [z4] } : T_api_Action))).bind fun z5 =>
  (some ({ f_Op := 1, f_Dst := 5, f_Src := ({ (default : T_api_Operand) with f_Kind := 3 } : T_api_Operand) : T_api_Prim })).bind fun z6 =>
  (some (({ (default : T_api_Operand) with f_Kind := 2, f_N := 5 } : T_api_Operand))).bind fun z7 =>
  (some (({ (default : T_api_Action) with f_ID := 4, f_Name := ByteArray.mk #[116, 97, 103], f_Params := [{ f_Name := ByteArray.mk #[120], f_Bits := 4 : T_api_Param }], f_Body := [z6, { f_Op := 2, f_Dst := 3, f_Src := z7 : T_api_Prim }] } : T_api_Action))).bind fun z8 =>
  (some ([{ f_Name := ByteArray.mk #[120], f_Bits := 4 : T_api_Param }, { f_Name := ByteArray.mk #[121], f_Bits := 12 : T_api_Param }])).bind fun z9 =>
  (some ({ f_Op := 1, f_Dst := 9, f_Src := ({ (default : T_api_Operand) with f_Kind := 3 } : T_api_Operand) : T_api_Prim })).bind fun z10 =>
  (some (({ (default : T_api_Operand) with f_Kind := 3, f_N := 1 } : T_api_Operand))).bind fun z11 =>
  (some ([({ (default : T_api_Prim) with f_Op := 4, f_Dst := 3 } : T_api_Prim), z10, { f_Op := 3, f_Dst := 8, f_Src := z11 : T_api_Prim }])).bind fun z12 =>
  (some (({ (default : T_api_Action) with f_ID := 5, f_Name := ByteArray.mk #[119, 114, 97, 112], f_Params := z9, f_Body := z12 } : T_api_Action))).bind fun z13 =>
  (L_mcase_Codes_Next x0 2).bind fun y1 =>
  (some (({ (default : T_api_Prim) with f_Op := 5, f_Dst := w64 (2 + y1.1) } : T_api_Prim))).bind fun z14 =>
  (L_mcase_Codes_Next y1.2 256).bind fun y2 =>
  (some (({ (default : T_api_Value) with f_Lo := BitVec.ofInt 64 y2.1 } : T_api_Value))).bind fun z15 =>
  (some (({ (default : T_api_Operand) with f_Kind := 1, f_Value := z15 } : T_api_Operand))).bind fun z16 =>
  (some (({ (default : T_api_Action) with f_ID := 6, f_Name := ByteArray.mk #[115, 116, 114, 105, 112], f_Body := [z14, { f_Op := 2, f_Dst := 6, f_Src := z16 : T_api_Prim }] } : T_api_Action))).bind fun z17 =>
  (L_mcase_Codes_Bool y2.2).bind fun y3 =>
  (cond y3.1 (
    (idx ([z1, z2, z5, z8, z13, z17].length) 2).bind fun k2 =>
    (some (lset [z1, z2, z5, z8, z13, z17] k2 ({ (lget [z1, z2, z5, z8, z13, z17] k2) with f_Restriction := ByteArray.mk #[112, 111, 114, 116, 32, 33, 61, 32, 48] } : T_api_Action))).bind fun z19 =>
    some z19) (
    some [z1, z2, z5, z8, z13, z17])).bind fun m1 =>
  (L_mcase_Codes_Bool y3.2).bind fun y4 =>
  (cond y4.1 (
    (idx m1.length 4).bind fun k1 =>
    (some (lset m1 k1 ({ (lget m1 k1) with f_Restriction := ByteArray.mk #[120, 32, 60, 32, 121, 32, 124, 124, 32, 120, 32, 61, 61, 32, 49, 53] } : T_api_Action))).bind fun z18 =>
    some z18) (
    some m1)).bind fun m2 =>
  some (m2, y4.2)
def L_mcase_Codes_tables (x0 : T_mcase_Codes) : Option ((List T_api_Table) × T_mcase_Codes) :=
  (some ({ f_Name := ByteArray.mk #[97], f_Field := 4, f_Kind := 1 : T_api_Key })).bind fun z1 =>
  (L_mcase_Codes_Next x0 2).bind fun y1 =>
  (L_mcase_Codes_Next y1.2 5).bind fun y2 =>
  (some (({ (default : T_api_Table) with f_ID := 1, f_Name := ByteArray.mk #[112, 111, 114, 116, 115], f_Keys := [z1], f_Actions := ([1, 2, 4] : List Int), f_Default := w64 (1 + y1.1), f_Size := w64 (2 + y2.1) } : T_api_Table))).bind fun z2 =>
  (some ({ f_Name := ByteArray.mk #[100], f_Field := 7, f_Kind := 2 : T_api_Key })).bind fun z3 =>
  (L_mcase_Codes_Next y2.2 6).bind fun y3 =>
  (L_mcase_Codes_Bool y3.2).bind fun y4 =>
  (cond y4.1 (
    (some ({ f_Name := ByteArray.mk #[109], f_Field := 3, f_Kind := 1 : T_api_Key })).bind fun z16 =>
    (appM 32 [z3] [z16]).bind fun y12 =>
    some (({ ({ (default : T_api_Table) with f_ID := 2, f_Name := ByteArray.mk #[114, 111, 117, 116, 101, 115], f_Actions := ([1, 2, 3, 4] : List Int), f_Default := 2, f_Size := w64 (3 + y3.1) } : T_api_Table) with f_Keys := [] } : T_api_Table), y12)) (
    some (({ (default : T_api_Table) with f_ID := 2, f_Name := ByteArray.mk #[114, 111, 117, 116, 101, 115], f_Actions := ([1, 2, 3, 4] : List Int), f_Default := 2, f_Size := w64 (3 + y3.1) } : T_api_Table), [z3]))).bind fun m1 =>
  (some ({ f_Name := ByteArray.mk #[101], f_Field := 6, f_Kind := 3 : T_api_Key })).bind fun z4 =>
  (some ({ f_Name := ByteArray.mk #[97], f_Field := 4, f_Kind := 3 : T_api_Key })).bind fun z5 =>
  (L_mcase_Codes_Next y4.2 6).bind fun y5 =>
  (L_mcase_Codes_Bool y5.2).bind fun y6 =>
  (cond y6.1 (
    (some ({ f_Name := ByteArray.mk #[98], f_Field := 5, f_Kind := 1 : T_api_Key })).bind fun z15 =>
    (appM 32 [z4, z5] [z15]).bind fun y11 =>
    some (({ ({ (default : T_api_Table) with f_ID := 3, f_Name := ByteArray.mk #[97, 99, 108], f_Actions := ([1, 2, 3, 5, 6] : List Int), f_Default := 1, f_Size := w64 (4 + y5.1) } : T_api_Table) with f_Keys := [] } : T_api_Table), y11)) (
    some (({ (default : T_api_Table) with f_ID := 3, f_Name := ByteArray.mk #[97, 99, 108], f_Actions := ([1, 2, 3, 5, 6] : List Int), f_Default := 1, f_Size := w64 (4 + y5.1) } : T_api_Table), [z4, z5]))).bind fun m2 =>
  (some ({ f_Name := ByteArray.mk #[102], f_Field := 8, f_Kind := 4 : T_api_Key })).bind fun z6 =>
  (L_mcase_Codes_Next y6.2 5).bind fun y7 =>
  (L_mcase_Codes_Bool y7.2).bind fun y8 =>
  (cond y8.1 (
    (some ({ f_Name := ByteArray.mk #[103], f_Field := 9, f_Kind := 1 : T_api_Key })).bind fun z13 =>
    (some ({ f_Name := ByteArray.mk #[100], f_Field := 7, f_Kind := 2 : T_api_Key })).bind fun z14 =>
    (appM 32 [z6] [z13, z14]).bind fun y10 =>
    some (({ ({ (default : T_api_Table) with f_ID := 4, f_Name := ByteArray.mk #[115, 112, 97, 110, 115], f_Actions := ([1, 3, 5] : List Int), f_Default := 3, f_DefaultArgs := [({ (default : T_api_Value) with f_Lo := 7#64 } : T_api_Value)], f_Size := w64 (3 + y7.1) } : T_api_Table) with f_Keys := [] } : T_api_Table), y10)) (
    some (({ (default : T_api_Table) with f_ID := 4, f_Name := ByteArray.mk #[115, 112, 97, 110, 115], f_Actions := ([1, 3, 5] : List Int), f_Default := 3, f_DefaultArgs := [({ (default : T_api_Value) with f_Lo := 7#64 } : T_api_Value)], f_Size := w64 (3 + y7.1) } : T_api_Table), [z6]))).bind fun m3 =>
  (some ([z2, ({ m1.1 with f_Keys := m1.2 } : T_api_Table), ({ m2.1 with f_Keys := m2.2 } : T_api_Table), ({ m3.1 with f_Keys := m3.2 } : T_api_Table)])).bind fun z7 =>
  (some ([ByteArray.mk #[], ByteArray.mk #[97, 32, 33, 61, 32, 48], ByteArray.mk #[97, 32, 60, 32, 49, 52, 32, 38, 38, 32, 97, 32, 33, 61, 32, 51]])).bind fun z8 =>
  (some ([ByteArray.mk #[], ByteArray.mk #[100, 58, 58, 112, 114, 101, 102, 105, 120, 95, 108, 101, 110, 103, 116, 104, 32, 62, 61, 32, 56], ByteArray.mk #[100, 58, 58, 112, 114, 101, 102, 105, 120, 95, 108, 101, 110, 103, 116, 104, 32, 61, 61, 32, 51, 50, 32, 45, 62, 32, 100, 58, 58, 118, 97, 108, 117, 101, 32, 62, 32, 48, 120, 102, 102]])).bind fun z9 =>
  (some ([ByteArray.mk #[], ByteArray.mk #[112, 114, 105, 111, 114, 105, 116, 121, 32, 60, 32, 49, 48, 48, 32, 38, 38, 32, 40, 101, 58, 58, 109, 97, 115, 107, 32, 33, 61, 32, 48, 32, 124, 124, 32, 97, 58, 58, 109, 97, 115, 107, 32, 33, 61, 32, 48, 41], ByteArray.mk #[101, 58, 58, 109, 97, 115, 107, 32, 61, 61, 32, 48, 32, 45, 62, 32, 112, 114, 105, 111, 114, 105, 116, 121, 32, 62, 32, 53]])).bind fun z10 =>
  (some ([ByteArray.mk #[], ByteArray.mk #[102, 58, 58, 104, 105, 103, 104, 32, 45, 32, 102, 58, 58, 108, 111, 119, 32, 60, 61, 32, 48, 120, 49, 48, 48], ByteArray.mk #[33, 40, 102, 58, 58, 108, 111, 119, 32, 61, 61, 32, 48, 32, 38, 38, 32, 102, 58, 58, 104, 105, 103, 104, 32, 62, 32, 49, 48, 48, 48, 41]])).bind fun z11 =>
  (loopM (σ := Int × (List T_api_Table) × T_mcase_Codes) (ε := (Int × Bool × (List T_api_Table) × T_mcase_Codes)) FUEL (fun s1 =>
    cond (decide (s1.1 < (z7.length : Int))) (
      (idx ([z8, z9, z10, z11].length) s1.1).bind fun k1 =>
      (L_mcase_Codes_Next s1.2.2 3).bind fun y9 =>
      (idx ((lget [z8, z9, z10, z11] k1).length) y9.1).bind fun k2 =>
      (idx s1.2.1.length s1.1).bind fun k3 =>
      (some (lset s1.2.1 k3 ({ (lget s1.2.1 k3) with f_Restriction := lget (lget [z8, z9, z10, z11] k1) k2 } : T_api_Table))).bind fun z12 =>
      some (.inl (w64 (s1.1 + 1), z12, y9.2))) (
      some (.inr (s1.1, decide (s1.1 < (z7.length : Int)), s1.2.1, s1.2.2)))) (0, z7, y8.2)).bind fun e1 =>
  some (e1.2.2.1, e1.2.2.2)
def L_mcase_Codes_roles (x0 : T_mcase_Codes) (x1 : List T_api_Table) : Option ((List T_api_Role) × T_mcase_Codes) :=
  (L_mcase_Codes_Next x0 3).bind fun y1 =>
  (L_mcase_Codes_Next y1.2 6).bind fun y2 =>
  (L_mcase_Codes_Next y2.2 6).bind fun y3 =>
  (L_mcase_Codes_Next y3.2 4).bind fun y4 =>
  (loopM (σ := Int × T_api_Role × (List T_api_Grant) × T_mcase_Codes × T_api_Role × (List T_api_Grant) × T_api_Role × (List T_api_Grant)) (ε := (Int × Bool × T_api_Role × (List T_api_Grant) × T_mcase_Codes × T_api_Role × (List T_api_Grant) × T_api_Role × (List T_api_Grant))) FUEL (fun s1 =>
    cond (decide (s1.1 < (x1.length : Int))) (
      (idx x1.length s1.1).bind fun k1 =>
      (mkM (α := Bool) 1 (((lget x1 k1).f_Keys).length : Int)).bind fun y5 =>
      (mkM (α := Bool) 1 (((lget x1 k1).f_Keys).length : Int)).bind fun y6 =>
      (loopM (σ := Int × (List Bool) × (List Bool) × T_mcase_Codes) (ε := (Int × Bool × (List Bool) × (List Bool) × T_mcase_Codes)) FUEL (fun s2 =>
        cond (decide (s2.1 < (y5.length : Int))) (
          (L_mcase_Codes_Next s2.2.2.2 4).bind fun y7 =>
          (idx s2.2.2.1.length s2.1).bind fun k2 =>
          (idx s2.2.1.length s2.1).bind fun k3 =>
          some (.inl (w64 (s2.1 + 1), lset s2.2.1 k3 (decide (y7.1 > 0)), lset s2.2.2.1 k2 true, y7.2))) (
          some (.inr (s2.1, decide (s2.1 < (y5.length : Int)), s2.2.1, s2.2.2.1, s2.2.2.2)))) (0, y6, y5, s1.2.2.2.1)).bind fun e2 =>
      (some ({ f_Table := (lget x1 k1).f_ID, f_Read := true, f_Write := true, f_Keys := e2.2.2.2.1 : T_api_Grant })).bind fun z1 =>
      (appM 40 s1.2.2.2.2.2.2.2 [z1]).bind fun y8 =>
      (L_mcase_Codes_Next e2.2.2.2.2 4).bind fun y9 =>
      (cond (decide (y9.1 > 0)) (
        (L_mcase_Codes_Next y9.2 4).bind fun y14 =>
        (L_mcase_Codes_Bool y14.2).bind fun y15 =>
        (some ({ f_Table := (lget x1 k1).f_ID, f_Read := decide (y14.1 > 0), f_Write := y15.1, f_Keys := e2.2.2.1 : T_api_Grant })).bind fun z3 =>
        (appM 40 s1.2.2.2.2.2.1 [z3]).bind fun y16 =>
        some (y15.2, ({ s1.2.2.2.2.1 with f_Grants := [] } : T_api_Role), y16)) (
        some (y9.2, s1.2.2.2.2.1, s1.2.2.2.2.2.1))).bind fun m1 =>
      (L_mcase_Codes_Bool m1.1).bind fun y10 =>
      (cond y10.1 (
        (L_mcase_Codes_Bool y10.2).bind fun y11 =>
        (L_mcase_Codes_Bool y11.2).bind fun y12 =>
        (some ({ f_Table := (lget x1 k1).f_ID, f_Read := y11.1, f_Write := y12.1, f_Keys := e2.2.2.2.1 : T_api_Grant })).bind fun z2 =>
        (appM 40 s1.2.2.1 [z2]).bind fun y13 =>
        some (y12.2, ({ s1.2.1 with f_Grants := [] } : T_api_Role), y13)) (
        some (y10.2, s1.2.1, s1.2.2.1))).bind fun m2 =>
      some (.inl (w64 (s1.1 + 1), m2.2.1, m2.2.2, m2.1, m1.2.1, m1.2.2, ({ s1.2.2.2.2.2.2.1 with f_Grants := [] } : T_api_Role), y8))) (
      some (.inr (s1.1, decide (s1.1 < (x1.length : Int)), s1.2.1, s1.2.2.1, s1.2.2.2.1, s1.2.2.2.2.1, s1.2.2.2.2.2.1, s1.2.2.2.2.2.2.1, s1.2.2.2.2.2.2.2)))) (0, ({ (default : T_api_Role) with f_ID := 7, f_Name := ByteArray.mk #[102, 101, 119], f_Actions := [w64 (1 + y3.1)], f_Quota := y4.1 } : T_api_Role), ([] : List T_api_Grant), y4.2, ({ (default : T_api_Role) with f_ID := 2, f_Name := ByteArray.mk #[115, 111, 109, 101], f_Actions := ([1, 2, w64 (3 + y1.1)] : List Int), f_Quota := w64 (1 + y2.1) } : T_api_Role), ([] : List T_api_Grant), ({ (default : T_api_Role) with f_ID := 1, f_Name := ByteArray.mk #[97, 108, 108], f_Actions := ([1, 2, 3, 4, 5, 6] : List Int), f_Quota := 40, f_Audit := true } : T_api_Role), ([] : List T_api_Grant))).bind fun e1 =>
  (some (({ e1.2.2.2.2.2.2.2.1 with f_Grants := e1.2.2.2.2.2.2.2.2 } : T_api_Role))).bind fun z4 =>
  (some ([z4, ({ e1.2.2.2.2.2.1 with f_Grants := e1.2.2.2.2.2.2.1 } : T_api_Role), ({ e1.2.2.1 with f_Grants := e1.2.2.2.1 } : T_api_Role)])).bind fun z5 =>
  some (z5, e1.2.2.2.2.1)
def L_mcase_Codes_Schema (x0 : T_mcase_Codes) : Option (T_api_Schema × T_mcase_Codes) :=
  (L_mcase_Codes_Next x0 8).bind fun y1 =>
  (L_mcase_Codes_Next y1.2 30).bind fun y2 =>
  (some ({ f_ID := 1, f_Name := ByteArray.mk #[105, 110, 103, 114, 101, 115, 115], f_Bits := 16 : T_api_Field })).bind fun z1 =>
  (some ({ f_ID := 2, f_Name := ByteArray.mk #[101, 103, 114, 101, 115, 115], f_Bits := 16 : T_api_Field })).bind fun z2 =>
  (some ({ f_ID := 3, f_Name := ByteArray.mk #[109, 101, 116, 97], f_Bits := 8 : T_api_Field })).bind fun z3 =>
  (some ({ f_ID := 6, f_Name := ByteArray.mk #[101], f_Bits := 8 : T_api_Field })).bind fun z4 =>
  (some ({ f_ID := 7, f_Name := ByteArray.mk #[100], f_Bits := 32 : T_api_Field })).bind fun z5 =>
  (some ({ f_ID := 8, f_Name := ByteArray.mk #[102], f_Bits := 12 : T_api_Field })).bind fun z6 =>
  (some ({ f_ID := 9, f_Name := ByteArray.mk #[103], f_Bits := 4 : T_api_Field })).bind fun z7 =>
  (some ([z1, z2, z3, { f_ID := 4, f_Name := ByteArray.mk #[97], f_Bits := 4 : T_api_Field }, { f_ID := 5, f_Name := ByteArray.mk #[98], f_Bits := 4 : T_api_Field }, z4, z5, z6, z7])).bind fun z8 =>
  (some (({ ({ (default : T_api_Schema) with f_MaxBatch := w64 (2 + y1.1), f_Budget := w64 (12 + y2.1) } : T_api_Schema) with f_Fields := z8 } : T_api_Schema))).bind fun z9 =>
  (some ({ f_ID := 1, f_Name := ByteArray.mk #[111, 110, 101], f_Fields := ([4, 5, 6] : List Int) : T_api_Header })).bind fun z10 =>
  (some ({ f_ID := 2, f_Name := ByteArray.mk #[116, 119, 111], f_Fields := ([7] : List Int) : T_api_Header })).bind fun z11 =>
  (some ({ f_ID := 3, f_Name := ByteArray.mk #[116, 104, 114, 101, 101], f_Fields := ([8, 9] : List Int) : T_api_Header })).bind fun z12 =>
  (L_mcase_Codes_states y2.2).bind fun y3 =>
  (L_mcase_Codes_actions y3.2).bind fun y4 =>
  (L_mcase_Codes_tables y4.2).bind fun y5 =>
  (some (({ ({ z9 with f_Headers := [z10, z11, z12] } : T_api_Schema) with f_States := y3.1 } : T_api_Schema))).bind fun z13 =>
  (some (({ ({ z13 with f_Actions := y4.1 } : T_api_Schema) with f_Tables := y5.1 } : T_api_Schema))).bind fun z14 =>
  (L_mcase_Codes_roles y5.2 z14.f_Tables).bind fun y6 =>
  (some ([{ f_Table := 1, f_Header := 1 : T_api_Stage }, { f_Table := 2, f_Header := 2 : T_api_Stage }, ({ (default : T_api_Stage) with f_Table := 3 } : T_api_Stage), { f_Table := 4, f_Header := 3 : T_api_Stage }])).bind fun z15 =>
  (L_mcase_Codes_Bool y6.2).bind fun y7 =>
  (cond y7.1 (
    (appM 16 z15 [({ (default : T_api_Stage) with f_Table := 1 } : T_api_Stage)]).bind fun y14 =>
    some y14) (
    some z15)).bind fun m1 =>
  (L_mcase_Codes_Bool y7.2).bind fun y8 =>
  (cond y8.1 (
    (some (({ (default : T_api_Ref) with f_Table := 2, f_Action := 4, f_ToTable := 1 } : T_api_Ref))).bind fun z20 =>
    (appM 48 ([] : List T_api_Ref) [z20]).bind fun y13 =>
    some (({ ({ ({ z14 with f_Roles := y6.1 } : T_api_Schema) with f_Stages := [] } : T_api_Schema) with f_Refs := [] } : T_api_Schema), y13)) (
    some (({ ({ z14 with f_Roles := y6.1 } : T_api_Schema) with f_Stages := [] } : T_api_Schema), ([] : List T_api_Ref)))).bind fun m2 =>
  (L_mcase_Codes_Bool y8.2).bind fun y9 =>
  (condM y9.1 true (idx m2.1.f_Tables.length 2)).bind fun k1 =>
  (cond (y9.1 && ((((lget m2.1.f_Tables k1).f_Keys).length : Int) == 3)) (
    (some (({ (default : T_api_Ref) with f_Table := 3, f_Key := 2, f_ToTable := 1 } : T_api_Ref))).bind fun z19 =>
    (appM 48 m2.2 [z19]).bind fun y12 =>
    some (({ m2.1 with f_Refs := [] } : T_api_Schema), y12)) (
    some (m2.1, m2.2))).bind fun m3 =>
  (L_mcase_Codes_Bool y9.2).bind fun y10 =>
  (condM y10.1 true (idx m3.1.f_Tables.length 3)).bind fun k2 =>
  (cond (y10.1 && ((((lget m3.1.f_Tables k2).f_Keys).length : Int) == 3)) (
    (some (({ (default : T_api_Ref) with f_Table := 4, f_Key := 1, f_ToTable := 1 } : T_api_Ref))).bind fun z17 =>
    (some (({ (default : T_api_Ref) with f_Table := 4, f_Action := 5, f_ToTable := 1 } : T_api_Ref))).bind fun z18 =>
    (appM 48 m3.2 [z17, z18]).bind fun y11 =>
    some (({ m3.1 with f_Refs := [] } : T_api_Schema), y11)) (
    some (m3.1, m3.2))).bind fun m4 =>
  (some (({ ({ m4.1 with f_Stages := m1 } : T_api_Schema) with f_Refs := m4.2 } : T_api_Schema))).bind fun z16 =>
  some (z16, y10.2)
def L_mcase_Mod (x0 : Int) (x1 : Int) : Option Int :=
  cond (decide (x1 < 1)) (
    some 0) (
    (modM x0 x1).bind fun y1 =>
    (modM (w64 (y1 + x1)) x1).bind fun y2 =>
    some y2)
def L_shadow_question_fn1 (x0 : T_api_Installed) (x1 : Int) : Option Bool :=
  some (x0.f_Number == x1)
def L_slices_IndexFunc_api_Installed (x0 : List T_api_Installed) (x1 : T_api_Installed → Option Bool) : Option Int :=
  (loopM (σ := Int) (ε := (Int × Bool) ⊕ (Int × Int × Int × Bool × Bool)) FUEL (fun s1 =>
    cond (decide (s1 < (x0.length : Int))) (
      (idx x0.length s1).bind fun k1 =>
      (x1 (lget x0 k1)).bind fun y1 =>
      cond y1 (
        some (.inr (Sum.inr (s1, s1, s1, decide (s1 < (x0.length : Int)), y1)))) (
        some (.inl (w64 (s1 + 1))))) (
      some (.inr (Sum.inl (s1, decide (s1 < (x0.length : Int))))))) 0).bind fun e1 =>
    Sum.elim (fun e1 =>
      some (-1)) (fun e1 =>
    some e1.1) e1
def L_check_TableOf_fn1 (x0 : T_api_Table) (x1 : Int) : Option Bool :=
  some (x0.f_ID == x1)
def L_slices_IndexFunc_api_Table (x0 : List T_api_Table) (x1 : T_api_Table → Option Bool) : Option Int :=
  (loopM (σ := Int) (ε := (Int × Bool) ⊕ (Int × Int × Int × Bool × Bool)) FUEL (fun s1 =>
    cond (decide (s1 < (x0.length : Int))) (
      (idx x0.length s1).bind fun k1 =>
      (x1 (lget x0 k1)).bind fun y1 =>
      cond y1 (
        some (.inr (Sum.inr (s1, s1, s1, decide (s1 < (x0.length : Int)), y1)))) (
        some (.inl (w64 (s1 + 1))))) (
      some (.inr (Sum.inl (s1, decide (s1 < (x0.length : Int))))))) 0).bind fun e1 =>
    Sum.elim (fun e1 =>
      some (-1)) (fun e1 =>
    some e1.1) e1
def L_check_TableOf (x0 : T_api_Schema) (x1 : Int) : Option Int :=
  (L_slices_IndexFunc_api_Table x0.f_Tables (fun a0 => L_check_TableOf_fn1 a0 x1)).bind fun y1 =>
  some y1
def L_slices_IndexFunc_api_Key (x0 : List T_api_Key) (x1 : T_api_Key → Option Bool) : Option Int :=
  (loopM (σ := Int) (ε := (Int × Bool) ⊕ (Int × Int × Int × Bool × Bool)) FUEL (fun s1 =>
    cond (decide (s1 < (x0.length : Int))) (
      (idx x0.length s1).bind fun k1 =>
      (x1 (lget x0 k1)).bind fun y1 =>
      cond y1 (
        some (.inr (Sum.inr (s1, s1, s1, decide (s1 < (x0.length : Int)), y1)))) (
        some (.inl (w64 (s1 + 1))))) (
      some (.inr (Sum.inl (s1, decide (s1 < (x0.length : Int))))))) 0).bind fun e1 =>
    Sum.elim (fun e1 =>
      some (-1)) (fun e1 =>
    some e1.1) e1
def L_slices_ContainsFunc_api_Key (x0 : List T_api_Key) (x1 : T_api_Key → Option Bool) : Option Bool :=
  (L_slices_IndexFunc_api_Key x0 x1).bind fun y1 =>
  some (decide (y1 ≥ 0))
def L_shadow_question_fn2 (x0 : T_api_Key) : Option Bool :=
  some (x0.f_Kind == 4)
def L_check_FieldOf_fn1 (x0 : T_api_Field) (x1 : Int) : Option Bool :=
  some (x0.f_ID == x1)
def L_slices_IndexFunc_api_Field (x0 : List T_api_Field) (x1 : T_api_Field → Option Bool) : Option Int :=
  (loopM (σ := Int) (ε := (Int × Bool) ⊕ (Int × Int × Int × Bool × Bool)) FUEL (fun s1 =>
    cond (decide (s1 < (x0.length : Int))) (
      (idx x0.length s1).bind fun k1 =>
      (x1 (lget x0 k1)).bind fun y1 =>
      cond y1 (
        some (.inr (Sum.inr (s1, s1, s1, decide (s1 < (x0.length : Int)), y1)))) (
        some (.inl (w64 (s1 + 1))))) (
      some (.inr (Sum.inl (s1, decide (s1 < (x0.length : Int))))))) 0).bind fun e1 =>
    Sum.elim (fun e1 =>
      some (-1)) (fun e1 =>
    some e1.1) e1
def L_check_FieldOf (x0 : T_api_Schema) (x1 : Int) : Option Int :=
  (L_slices_IndexFunc_api_Field x0.f_Fields (fun a0 => L_check_FieldOf_fn1 a0 x1)).bind fun y1 =>
  some y1
def L_value_within (x0 : Int) : Option Int :=
  some (min (max 0 x0) 128)
def L_value_Right (x0 : T_api_Value) (x1 : Int) : Option T_api_Value :=
  cond (decide (x1 ≤ 0)) (
    some x0) (
    cond (decide (x1 ≥ 64)) (
      (some (({ (default : T_api_Value) with f_Lo := x0.f_Hi >>> (BitVec.ofInt 64 (w64 (x1 - 64))).toNat } : T_api_Value))).bind fun z1 =>
      some z1) (
      (some ((x0.f_Lo >>> (BitVec.ofInt 64 x1).toNat) ||| (x0.f_Hi <<< (BitVec.ofInt 64 (w64 (64 - x1))).toNat))).bind fun z2 =>
      (some ({ f_Hi := x0.f_Hi >>> (BitVec.ofInt 64 x1).toNat, f_Lo := z2 : T_api_Value })).bind fun z3 =>
      some z3))
def L_value_Ones (x0 : Int) : Option T_api_Value :=
  (some ({ f_Hi := 18446744073709551615#64, f_Lo := 18446744073709551615#64 : T_api_Value })).bind fun z1 =>
  (L_value_within x0).bind fun y1 =>
  (L_value_Right z1 (w64 (128 - y1))).bind fun y2 =>
  some y2
def L_value_Xor (x0 : T_api_Value) (x1 : T_api_Value) : Option T_api_Value :=
  (some ({ f_Hi := x0.f_Hi ^^^ x1.f_Hi, f_Lo := x0.f_Lo ^^^ x1.f_Lo : T_api_Value })).bind fun z1 =>
  some z1
def L_value_Leading (x0 : Int) (x1 : Int) : Option T_api_Value :=
  (L_value_within x0).bind fun y1 =>
  (L_value_Ones y1).bind fun y2 =>
  (L_value_Ones (w64 (y1 - (min (max 0 x1) y1)))).bind fun y3 =>
  (L_value_Xor y2 y3).bind fun y4 =>
  some y4
def L_cube_fixed (x0 : T_api_Match) (x1 : Int) (x2 : Int) : Option T_api_Value :=
  cond (!x0.f_Present) (
    some (default : T_api_Value)) (
    cond (x1 == 1) (
      (L_value_Ones x2).bind fun y1 =>
      some y1) (
      cond (x1 == 2) (
        (L_value_Leading x2 x0.f_Prefix).bind fun y2 =>
        some y2) (
        some x0.f_Mask)))
def L_value_And (x0 : T_api_Value) (x1 : T_api_Value) : Option T_api_Value :=
  (some ({ f_Hi := x0.f_Hi &&& x1.f_Hi, f_Lo := x0.f_Lo &&& x1.f_Lo : T_api_Value })).bind fun z1 =>
  some z1
def L_cube_Of (x0 : T_api_Schema) (x1 : T_api_Entry) : Option (T_cube_Cube × Bool) :=
  (L_check_TableOf x0 x1.f_Table).bind fun y1 =>
  cond (decide (y1 < 0)) (
    some ((default : T_cube_Cube), false)) (
    (idx x0.f_Tables.length y1).bind fun k1 =>
    (loopM (σ := Int × T_cube_Cube) (ε := (Int × Bool × T_cube_Cube) ⊕ (Int × Int × Int × Bool × Bool × T_cube_Cube)) FUEL (fun s1 =>
      cond (decide (s1.1 < (((lget x0.f_Tables k1).f_Keys).length : Int))) (
        (idx (((lget x0.f_Tables k1).f_Keys).length) s1.1).bind fun k2 =>
        (L_check_FieldOf x0 ((lget ((lget x0.f_Tables k1).f_Keys) k2).f_Field)).bind fun y2 =>
        (some ((((lget ((lget x0.f_Tables k1).f_Keys) k2).f_Kind) == 4) || (decide (y2 < 0)))).bind fun z1 =>
        (some ((z1 || (decide (s1.1 ≥ (x1.f_Matches.length : Int)))) || (decide (s1.1 ≥ 4)))).bind fun z2 =>
        cond z2 (
          some (.inr (Sum.inr (s1.1, y2, s1.1, decide (s1.1 < (((lget x0.f_Tables k1).f_Keys).length : Int)), z2, s1.2)))) (
          (idx x1.f_Matches.length s1.1).bind fun k3 =>
          (idx x0.f_Fields.length y2).bind fun k4 =>
          (L_cube_fixed (lget x1.f_Matches k3) ((lget ((lget x0.f_Tables k1).f_Keys) k2).f_Kind) ((lget x0.f_Fields k4).f_Bits)).bind fun y3 =>
          (idx 4 s1.1).bind fun k5 =>
          (idx x1.f_Matches.length s1.1).bind fun k6 =>
          (idx 4 s1.1).bind fun k7 =>
          (L_value_And ((lget x1.f_Matches k6).f_Value) (vget (vset s1.2.f_Mask k5 y3) k7)).bind fun y4 =>
          (idx 4 s1.1).bind fun k8 =>
          (some (({ ({ s1.2 with f_Mask := vset s1.2.f_Mask k5 y3 } : T_cube_Cube) with f_Value := vset s1.2.f_Value k8 y4 } : T_cube_Cube))).bind fun z3 =>
          some (.inl (w64 (s1.1 + 1), z3)))) (
        some (.inr (Sum.inl (s1.1, decide (s1.1 < (((lget x0.f_Tables k1).f_Keys).length : Int)), s1.2))))) (0, (default : T_cube_Cube))).bind fun e1 =>
      Sum.elim (fun e1 =>
        some (e1.2.2, true)) (fun e1 =>
      some ((default : T_cube_Cube), false)) e1)
def L_shadow_winners (x0 : T_api_Schema) (x1 : List T_api_Installed) (x2 : T_api_Installed) : Option ((List T_api_Installed) × T_api_Schema × T_api_Installed) :=
  some (x1, x0, x2)
def L_cmp_isNaN_int (x0 : Int) : Option Bool :=
  some (x0 != x0)
def L_cmp_Compare_int (x0 : Int) (x1 : Int) : Option Int :=
  (L_cmp_isNaN_int x0).bind fun y1 =>
  (L_cmp_isNaN_int x1).bind fun y2 =>
  cond y1 (
    cond y2 (
      some 0) (
      some (-1))) (
    cond y2 (
      some 1) (
      cond (decide (x0 < x1)) (
        some (-1)) (
        cond (decide (x0 > x1)) (
          some 1) (
          some 0))))
def L_entry_table (x0 : T_api_Schema) (x1 : T_api_Entry) : Option (T_api_Table × Bool) :=
  (L_check_TableOf x0 x1.f_Table).bind fun y1 =>
  cond (decide (y1 < 0)) (
    some ((default : T_api_Table), false)) (
    (idx x0.f_Tables.length y1).bind fun k1 =>
    some (lget x0.f_Tables k1, true))
def L_entry_Prefix_fn1 (x0 : T_api_Key) : Option Bool :=
  some (x0.f_Kind == 2)
def L_entry_Prefix (x0 : T_api_Schema) (x1 : T_api_Entry) : Option Int :=
  (L_entry_table x0 x1).bind fun y1 =>
  (L_slices_IndexFunc_api_Key y1.1.f_Keys L_entry_Prefix_fn1).bind fun y2 =>
  (some (((!y1.2) || (decide (y2 < 0))) || (decide (y2 ≥ (x1.f_Matches.length : Int))))).bind fun z1 =>
  cond z1 (
    some 0) (
    (idx x1.f_Matches.length y2).bind fun k1 =>
    some ((lget x1.f_Matches k1).f_Prefix))
def L_entry_first (x0 : List Int) : Option Int :=
  (loopM (σ := Int) (ε := (Int × Bool) ⊕ (Int × Int × Int × Bool × Bool)) FUEL (fun s1 =>
    cond (decide (s1 < (x0.length : Int))) (
      (idx x0.length s1).bind fun k1 =>
      cond ((lget x0 k1) != 0) (
        some (.inr (Sum.inr (lget x0 k1, lget x0 k1, s1, decide (s1 < (x0.length : Int)), (lget x0 k1) != 0)))) (
        some (.inl (w64 (s1 + 1))))) (
      some (.inr (Sum.inl (s1, decide (s1 < (x0.length : Int))))))) 0).bind fun e1 =>
    Sum.elim (fun e1 =>
      some 0) (fun e1 =>
    some e1.1) e1
def L_entry_Beats (x0 : T_api_Schema) (x1 : T_api_Installed) (x2 : T_api_Installed) : Option Bool :=
  (L_cmp_Compare_int x1.f_Entry.f_Priority x2.f_Entry.f_Priority).bind fun y1 =>
  (L_entry_Prefix x0 x1.f_Entry).bind fun y2 =>
  (L_entry_Prefix x0 x2.f_Entry).bind fun y3 =>
  (L_cmp_Compare_int y2 y3).bind fun y4 =>
  (L_cmp_Compare_int x1.f_Number x2.f_Number).bind fun y5 =>
  (L_entry_first [y1, y4, y5]).bind fun y6 =>
  some (decide (y6 > 0))
def L_shadow_winners_fn1 {σ ε : Type} (x1 : List T_api_Installed) (x2 : T_api_Schema) (x3 : T_api_Installed) (step : T_cube_Cube → σ → Option (σ ⊕ ε)) (s0 : σ) : Option (σ ⊕ ε) :=
  (loopM (σ := Int × (σ)) (ε := (Int × Bool × (σ)) ⊕ (Bool × Int × Bool × Bool × Bool × (ε))) FUEL (fun s1 =>
    cond (decide (s1.1 < (x1.length : Int))) (
      (idx x1.length s1.1).bind fun k1 =>
      (L_entry_Beats x2 (lget x1 k1) x3).bind fun y1 =>
      cond (!y1) (
        some (.inl (w64 (s1.1 + 1), s1.2))) (
        (L_cube_Of x2 ((lget x1 k1).f_Entry)).bind fun y2 =>
        cond y2.2 (
          (step y2.1 s1.2).bind fun y3 =>
          Sum.elim (fun s2 =>
            some (.inl (w64 (s1.1 + 1), s2))) (fun q2 =>
            some (.inr (Sum.inr (y2.2, s1.1, decide (s1.1 < (x1.length : Int)), !y1, y2.2 && (!false), q2)))) y3) (
          some (.inl (w64 (s1.1 + 1), s1.2))))) (
      some (.inr (Sum.inl (s1.1, decide (s1.1 < (x1.length : Int)), s1.2))))) (0, s0)).bind fun e1 =>
    Sum.elim (fun e1 =>
      some (.inl e1.2.2)) (fun e1 =>
    some (.inr e1.2.2.2.2.2)) e1
def L_shadow_question (x0 : T_api_Schema) (x1 : List T_api_Installed) (x2 : Int) : Option (T_cube_Cube × (List T_cube_Cube) × Int) :=
  (L_slices_IndexFunc_api_Installed x1 (fun a0 => L_shadow_question_fn1 a0 x2)).bind fun y1 =>
  cond (decide (y1 < 0)) (
    some ((default : T_cube_Cube), ([] : List T_cube_Cube), 16)) (
    (idx x1.length y1).bind fun k1 =>
    (L_check_TableOf x0 (((lget x1 k1).f_Entry).f_Table)).bind fun y2 =>
    (condM (decide (y2 ≥ 0)) true (idx x0.f_Tables.length y2)).bind fun k2 =>
    (condM (decide (y2 ≥ 0)) true (L_slices_ContainsFunc_api_Key ((lget x0.f_Tables k2).f_Keys) L_shadow_question_fn2)).bind fun y3 =>
    cond ((decide (y2 ≥ 0)) && y3) (
      some ((default : T_cube_Cube), ([] : List T_cube_Cube), 13)) (
      (idx x1.length y1).bind fun k3 =>
      (L_cube_Of x0 ((lget x1 k3).f_Entry)).bind fun y4 =>
      (idx x1.length y1).bind fun k4 =>
      (L_shadow_winners x0 x1 (lget x1 k4)).bind fun y5 =>
      (L_shadow_winners_fn1 y5.1 y5.2.1 y5.2.2 (σ := (List T_cube_Cube) × (List T_cube_Cube)) (ε := Empty) (fun (vx1 : T_cube_Cube) (s1 : (List T_cube_Cube) × (List T_cube_Cube)) =>
        (appM 128 s1.1 [vx1]).bind fun y6 =>
        some (.inl (y6, []))) (([] : List T_cube_Cube), (default : List T_cube_Cube))).bind fun e1 =>
      Sum.elim (fun s1 =>
        some (y4.1, s1.1, 0)) (fun q1 =>
        Empty.elim q1) e1))
def L_slices_Clone_cube_Cube (x0 : List T_cube_Cube) : Option (List T_cube_Cube) :=
  (appM 128 ([] : List T_cube_Cube) x0).bind fun y1 =>
  some y1
def L_cube_combined (x0 : Vector T_api_Value 4) (x1 : Vector T_api_Value 4) (x2 : T_api_Value → T_api_Value → Option T_api_Value) : Option (Vector T_api_Value 4) :=
  (loopM (σ := Int × (Vector T_api_Value 4)) (ε := (Int × Bool × (Vector T_api_Value 4))) FUEL (fun s1 =>
    cond (decide (s1.1 < 4)) (
      (idx 4 s1.1).bind fun k1 =>
      (idx 4 s1.1).bind fun k2 =>
      (x2 (vget s1.2 k1) (vget x1 k2)).bind fun y1 =>
      (idx 4 s1.1).bind fun k3 =>
      some (.inl (w64 (s1.1 + 1), vset s1.2 k3 y1))) (
      some (.inr (s1.1, decide (s1.1 < 4), s1.2)))) (0, x0)).bind fun e1 =>
  some e1.2.2
def L_value_Or (x0 : T_api_Value) (x1 : T_api_Value) : Option T_api_Value :=
  (some ({ f_Hi := x0.f_Hi ||| x1.f_Hi, f_Lo := x0.f_Lo ||| x1.f_Lo : T_api_Value })).bind fun z1 =>
  some z1
def L_cube_Meet (x0 : T_cube_Cube) (x1 : T_cube_Cube) : Option (T_cube_Cube × Bool) :=
  (L_cube_combined x0.f_Mask x1.f_Mask L_value_And).bind fun y1 =>
  (L_cube_combined x0.f_Value x1.f_Value L_value_Xor).bind fun y2 =>
  (L_cube_combined y2 y1 L_value_And).bind fun y3 =>
  cond (!decide (y3 = (default : Vector T_api_Value 4))) (
    some ((default : T_cube_Cube), false)) (
    (L_cube_combined x0.f_Value x1.f_Value L_value_Or).bind fun y4 =>
    (L_cube_combined x0.f_Mask x1.f_Mask L_value_Or).bind fun y5 =>
    some ({ f_Value := y4, f_Mask := y5 : T_cube_Cube }, true))
def L_cover_near_fn1 (x0 : T_cube_Cube) (x1 : T_cube_Cube) : Option Bool :=
  (L_cube_Meet x1 x0).bind fun y1 =>
  some (!y1.2)
def L_slices_IndexFunc_cube_Cube (x0 : List T_cube_Cube) (x1 : T_cube_Cube → Option Bool) : Option Int :=
  (loopM (σ := Int) (ε := (Int × Bool) ⊕ (Int × Int × Int × Bool × Bool)) FUEL (fun s1 =>
    cond (decide (s1 < (x0.length : Int))) (
      (idx x0.length s1).bind fun k1 =>
      (x1 (lget x0 k1)).bind fun y1 =>
      cond y1 (
        some (.inr (Sum.inr (s1, s1, s1, decide (s1 < (x0.length : Int)), y1)))) (
        some (.inl (w64 (s1 + 1))))) (
      some (.inr (Sum.inl (s1, decide (s1 < (x0.length : Int))))))) 0).bind fun e1 =>
    Sum.elim (fun e1 =>
      some (-1)) (fun e1 =>
    some e1.1) e1
def Lp0_slices_DeleteFunc_cube_Cube (x0 : List T_cube_Cube) (x1 : T_cube_Cube → Option Bool) : Option (List T_cube_Cube) :=
  (L_slices_IndexFunc_cube_Cube x0 x1).bind fun y1 =>
  cond (y1 == (-1)) (
    some x0) (
    (loopM (σ := Int × Int × (List T_cube_Cube)) (ε := (Int × Int × Bool × (List T_cube_Cube))) FUEL (fun s1 =>
      cond (decide (s1.2.1 < (s1.2.2.length : Int))) (
        (idx s1.2.2.length s1.2.1).bind fun k1 =>
        (x1 (lget s1.2.2 k1)).bind fun y2 =>
        (cond (!y2) (
          (idx s1.2.2.length s1.1).bind fun k2 =>
          some (w64 (s1.1 + 1), lset s1.2.2 k2 (lget s1.2.2 k1))) (
          some (s1.1, s1.2.2))).bind fun m1 =>
        some (.inl (m1.1, w64 (s1.2.1 + 1), m1.2))) (
        some (.inr (s1.1, s1.2.1, decide (s1.2.1 < (s1.2.2.length : Int)), s1.2.2)))) (y1, w64 (y1 + 1), x0)).bind fun e1 =>
    (cutM e1.2.2.2.length e1.1 (e1.2.2.2.length : Int)).bind fun y3 =>
    (some (lclear e1.2.2.2 y3.1 (y3.2 - y3.1))).bind fun z1 =>
    (idx (z1.length + 1) e1.1).bind fun k3 =>
    (some (z1.take k3)).bind fun z2 =>
    some z2)
def L_cover_near (x0 : T_cube_Cube) (x1 : List T_cube_Cube) : Option (List T_cube_Cube) :=
  (L_slices_Clone_cube_Cube x1).bind fun y1 =>
  (Lp0_slices_DeleteFunc_cube_Cube y1 (fun a0 => L_cover_near_fn1 a0 x0)).bind fun y2 =>
  some y2
def L_cube_Within (x0 : T_cube_Cube) (x1 : T_cube_Cube) : Option Bool :=
  (L_cube_Meet x0 x1).bind fun y1 =>
  some (y1.2 && (decide (y1.1 = x0)))
def L_cover_covered_fn1 (x0 : T_cube_Cube) (x1 : T_cube_Cube) : Option Bool :=
  (L_cube_Within x1 x0).bind fun y1 =>
  some y1
def L_slices_ContainsFunc_cube_Cube (x0 : List T_cube_Cube) (x1 : T_cube_Cube → Option Bool) : Option Bool :=
  (L_slices_IndexFunc_cube_Cube x0 x1).bind fun y1 =>
  some (decide (y1 ≥ 0))
def L_value_Not (x0 : T_api_Value) (x1 : Int) : Option T_api_Value :=
  (L_value_Ones x1).bind fun y1 =>
  (L_value_And y1 ({ f_Hi := ~~~x0.f_Hi, f_Lo := ~~~x0.f_Lo : T_api_Value })).bind fun y2 =>
  some y2
def L_cover_wanted (x0 : T_cube_Cube) (x1 : List T_cube_Cube) : Option ((Vector T_api_Value 4) × (Vector T_api_Value 4)) :=
  (loopM (σ := Int × (Vector T_api_Value 4) × (Vector T_api_Value 4)) (ε := (Int × Bool × (Vector T_api_Value 4) × (Vector T_api_Value 4))) FUEL (fun s1 =>
    cond (decide (s1.1 < (x1.length : Int))) (
      (idx x1.length s1.1).bind fun k1 =>
      (loopM (σ := Int × (Vector T_api_Value 4) × (Vector T_api_Value 4)) (ε := (Int × Bool × (Vector T_api_Value 4) × (Vector T_api_Value 4))) FUEL (fun s2 =>
        cond (decide (s2.1 < 4)) (
          (idx 4 s2.1).bind fun k2 =>
          (idx 4 s2.1).bind fun k3 =>
          (L_value_Not (vget x0.f_Mask k3) 128).bind fun y1 =>
          (L_value_And (vget ((lget x1 k1).f_Mask) k2) y1).bind fun y2 =>
          (idx 4 s2.1).bind fun k4 =>
          (idx 4 s2.1).bind fun k5 =>
          (L_value_And y2 (vget ((lget x1 k1).f_Value) k5)).bind fun y3 =>
          (L_value_Or (vget s2.2.1 k4) y3).bind fun y4 =>
          (idx 4 s2.1).bind fun k6 =>
          (idx 4 s2.1).bind fun k7 =>
          (idx 4 s2.1).bind fun k8 =>
          (L_value_Not (vget ((lget x1 k1).f_Value) k8) 128).bind fun y5 =>
          (L_value_And y2 y5).bind fun y6 =>
          (L_value_Or (vget s2.2.2 k7) y6).bind fun y7 =>
          (idx 4 s2.1).bind fun k9 =>
          some (.inl (w64 (s2.1 + 1), vset s2.2.1 k6 y4, vset s2.2.2 k9 y7))) (
          some (.inr (s2.1, decide (s2.1 < 4), s2.2.1, s2.2.2)))) (0, s1.2.1, s1.2.2)).bind fun e2 =>
      some (.inl (w64 (s1.1 + 1), e2.2.2.1, e2.2.2.2))) (
      some (.inr (s1.1, decide (s1.1 < (x1.length : Int)), s1.2.1, s1.2.2)))) (0, (default : Vector T_api_Value 4), (default : Vector T_api_Value 4))).bind fun e1 =>
  some (e1.2.2.2, e1.2.2.1)
def L_cover_escape (x0 : T_cube_Cube) (x1 : Vector T_api_Value 4) (x2 : Vector T_api_Value 4) : Option T_cube_Cube :=
  (loopM (σ := Int × T_cube_Cube) (ε := (Int × Bool × T_cube_Cube)) FUEL (fun s1 =>
    cond (decide (s1.1 < 4)) (
      (idx 4 s1.1).bind fun k1 =>
      (idx 4 s1.1).bind fun k2 =>
      (L_value_And (vget x1 k1) (vget x2 k2)).bind fun y1 =>
      (idx 4 s1.1).bind fun k3 =>
      (idx 4 s1.1).bind fun k4 =>
      (idx 4 s1.1).bind fun k5 =>
      (L_value_Or (vget x1 k4) (vget x2 k5)).bind fun y2 =>
      (L_value_Xor y2 y1).bind fun y3 =>
      (L_value_Or (vget s1.2.f_Mask k3) y3).bind fun y4 =>
      (idx 4 s1.1).bind fun k6 =>
      (idx 4 s1.1).bind fun k7 =>
      (idx 4 s1.1).bind fun k8 =>
      (L_value_Xor (vget x1 k8) y1).bind fun y5 =>
      (L_value_Or (vget s1.2.f_Value k7) y5).bind fun y6 =>
      (idx 4 s1.1).bind fun k9 =>
      (some (({ ({ s1.2 with f_Mask := vset s1.2.f_Mask k6 y4 } : T_cube_Cube) with f_Value := vset s1.2.f_Value k9 y6 } : T_cube_Cube))).bind fun z1 =>
      some (.inl (w64 (s1.1 + 1), z1))) (
      some (.inr (s1.1, decide (s1.1 < 4), s1.2)))) (0, x0)).bind fun e1 =>
  some e1.2.2
def L_value_Bit (x0 : T_api_Value) (x1 : Int) : Option Bool :=
  (condM ((decide (x1 ≥ 0)) && (decide (x1 < 128))) true (L_value_Right x0 x1)).bind fun y1 =>
  (some (((decide (x1 ≥ 0)) && (decide (x1 < 128))) && ((y1.f_Lo &&& (1#64)) == (1#64)))).bind fun z1 =>
  some z1
def L_cover_has (x0 : Vector T_api_Value 4) (x1 : Int) : Option Bool :=
  (divM x1 128).bind fun y1 =>
  (idx 4 y1).bind fun k1 =>
  (modM x1 128).bind fun y2 =>
  (L_value_Bit (vget x0 k1) (w64 (127 - y2))).bind fun y3 =>
  some y3
def L_cover_busiest (x0 : Vector T_api_Value 4) (x1 : List T_cube_Cube) : Option Int :=
  (loopM (σ := Int × Int × Int) (ε := (Int × Int × Int × Bool)) FUEL (fun s1 =>
    cond (decide (s1.2.2 < 512)) (
      (L_cover_has x0 s1.2.2).bind fun y1 =>
      cond (!y1) (
        some (.inl (s1.1, s1.2.1, w64 (s1.2.2 + 1)))) (
        (loopM (σ := Int × Int) (ε := (Int × Int × Bool)) FUEL (fun s2 =>
          cond (decide (s2.2 < (x1.length : Int))) (
            (idx x1.length s2.2).bind fun k1 =>
            (L_cover_has ((lget x1 k1).f_Mask) s1.2.2).bind fun y2 =>
            (cond y2 (
              some (w64 (s2.1 + 1))) (
              some s2.1)).bind fun m1 =>
            some (.inl (m1, w64 (s2.2 + 1)))) (
            some (.inr (s2.1, s2.2, decide (s2.2 < (x1.length : Int)))))) (0, 0)).bind fun e2 =>
        (cond (decide (e2.1 > s1.2.1)) (
          some (s1.2.2, e2.1)) (
          some (s1.1, s1.2.1))).bind fun m2 =>
        some (.inl (m2.1, m2.2, w64 (s1.2.2 + 1))))) (
      some (.inr (s1.1, s1.2.1, s1.2.2, decide (s1.2.2 < 512))))) (0, 0, 0)).bind fun e1 =>
  some e1.1
def L_cube_place (x0 : Int) : Option (Int × Int) :=
  (divM x0 128).bind fun y1 =>
  (modM x0 128).bind fun y2 =>
  some (y1, w64 (127 - y2))
def L_cube_has (x0 : Vector T_api_Value 4) (x1 : Int) : Option Bool :=
  (L_cube_place x1).bind fun y1 =>
  (idx 4 y1.1).bind fun k1 =>
  (L_value_Bit (vget x0 k1) y1.2).bind fun y2 =>
  some y2
def L_value_Of (x0 : BitVec 64) : Option T_api_Value :=
  some ({ (default : T_api_Value) with f_Lo := x0 } : T_api_Value)
def L_value_Left (x0 : T_api_Value) (x1 : Int) : Option T_api_Value :=
  cond (decide (x1 ≤ 0)) (
    some x0) (
    cond (decide (x1 ≥ 64)) (
      (some (({ (default : T_api_Value) with f_Hi := x0.f_Lo <<< (BitVec.ofInt 64 (w64 (x1 - 64))).toNat } : T_api_Value))).bind fun z1 =>
      some z1) (
      (some ((x0.f_Hi <<< (BitVec.ofInt 64 x1).toNat) ||| (x0.f_Lo >>> (BitVec.ofInt 64 (w64 (64 - x1))).toNat))).bind fun z2 =>
      (some ({ f_Hi := z2, f_Lo := x0.f_Lo <<< (BitVec.ofInt 64 x1).toNat : T_api_Value })).bind fun z3 =>
      some z3))
def L_cube_Fix (x0 : T_cube_Cube) (x1 : Int) (x2 : Bool) : Option T_cube_Cube :=
  (condM ((decide (x1 < 0)) || (decide (x1 ≥ 512))) false (L_cube_has x0.f_Mask x1)).bind fun y1 =>
  cond (((decide (x1 < 0)) || (decide (x1 ≥ 512))) || y1) (
    some x0) (
    (L_cube_place x1).bind fun y2 =>
    (L_value_Of (1#64)).bind fun y3 =>
    (L_value_Left y3 y2.2).bind fun y4 =>
    (idx 4 y2.1).bind fun k1 =>
    (L_value_Or (vget x0.f_Mask k1) y4).bind fun y5 =>
    (idx 4 y2.1).bind fun k2 =>
    (cond x2 (
      (idx 4 y2.1).bind fun k3 =>
      (L_value_Or (vget x0.f_Value k3) y4).bind fun y6 =>
      (idx 4 y2.1).bind fun k4 =>
      (some (({ ({ x0 with f_Mask := vset x0.f_Mask k2 y5 } : T_cube_Cube) with f_Value := vset x0.f_Value k4 y6 } : T_cube_Cube))).bind fun z1 =>
      some z1) (
      some ({ x0 with f_Mask := vset x0.f_Mask k2 y5 } : T_cube_Cube))).bind fun m1 =>
    some m1)
def Lr_cover_covered : Nat → T_cube_Cube → (List T_cube_Cube) → Option Bool
  | 0 => fun _ _ => none
  | n + 1 => fun x0 x1 =>
    (L_cover_near x0 x1).bind fun y1 =>
    (L_slices_ContainsFunc_cube_Cube y1 (fun a0 => L_cover_covered_fn1 a0 x0)).bind fun y2 =>
    cond y2 (
      some true) (
      cond ((y1.length : Int) == 0) (
        some false) (
        (L_cover_wanted x0 y1).bind fun y3 =>
        (L_cover_escape x0 y3.1 y3.2).bind fun y4 =>
        cond (!decide (y4 = x0)) (
          (Lr_cover_covered n y4 y1).bind fun y5 =>
          some y5) (
          (L_cover_busiest y3.1 y1).bind fun y6 =>
          (L_cube_Fix x0 y6 false).bind fun y7 =>
          (Lr_cover_covered n y7 y1).bind fun y8 =>
          (condM y8 true (L_cube_Fix x0 y6 true)).bind fun y9 =>
          (condM y8 true (Lr_cover_covered n y9 y1)).bind fun y10 =>
          some (y8 && y10))))
def L_cover_covered (x0 : T_cube_Cube) (x1 : List T_cube_Cube) : Option Bool := Lr_cover_covered FUEL x0 x1
def L_cover_Covered (x0 : T_cube_Cube) (x1 : List T_cube_Cube) : Option (Bool × Int) :=
  (L_cover_near x0 x1).bind fun y1 =>
  cond (decide ((y1.length : Int) > 16)) (
    some (false, 26)) (
    (L_cover_covered x0 y1).bind fun y2 =>
    some (y2, 0))
def L_shadow_Check (x0 : T_api_Schema) (x1 : List T_api_Installed) (x2 : Int) : Option (Bool × Int) :=
  (L_shadow_question x0 x1 x2).bind fun y1 =>
  cond (y1.2.2 != 0) (
    some (false, y1.2.2)) (
    (L_cover_Covered y1.1 y1.2.1).bind fun y2 =>
    some (y2.1, y2.2))
def L_cover_Witness (x0 : T_cube_Cube) (x1 : List T_cube_Cube) : Option ((Vector T_api_Value 4) × Bool × Int) :=
  (L_cover_near x0 x1).bind fun y1 =>
  cond (decide ((y1.length : Int) > 16)) (
    some ((default : Vector T_api_Value 4), false, 26)) (
    (L_cover_covered x0 y1).bind fun y2 =>
    cond y2 (
      some ((default : Vector T_api_Value 4), false, 0)) (
      (loopM (σ := (List T_cube_Cube) × Int × T_cube_Cube) (ε := ((List T_cube_Cube) × Int × Bool × T_cube_Cube)) FUEL (fun s1 =>
        cond (decide (s1.2.1 < 512)) (
          (L_cube_Fix s1.2.2 s1.2.1 false).bind fun y3 =>
          cond (decide (y3 = s1.2.2)) (
            some (.inl (s1.1, w64 (s1.2.1 + 1), s1.2.2))) (
            (L_cover_near y3 s1.1).bind fun y4 =>
            (L_cover_covered y3 y4).bind fun y5 =>
            cond (!y5) (
              some (.inl (y4, w64 (s1.2.1 + 1), y3))) (
              (L_cube_Fix s1.2.2 s1.2.1 true).bind fun y6 =>
              (L_cover_near y6 s1.1).bind fun y7 =>
              some (.inl (y7, w64 (s1.2.1 + 1), y6))))) (
          some (.inr (s1.1, s1.2.1, decide (s1.2.1 < 512), s1.2.2)))) (y1, 0, x0)).bind fun e1 =>
      some (e1.2.2.2.f_Value, true, 0)))
def L_shadow_Witness (x0 : T_api_Schema) (x1 : List T_api_Installed) (x2 : Int) : Option ((Vector T_api_Value 4) × Bool × Int) :=
  (L_shadow_question x0 x1 x2).bind fun y1 =>
  cond (y1.2.2 != 0) (
    some ((default : Vector T_api_Value 4), false, y1.2.2)) (
    (L_cover_Witness y1.1 y1.2.1).bind fun y2 =>
    some (y2.1, y2.2.1, y2.2.2))
def L_law27_begun  : Option Bool :=
  (L_mcase_New ([] : List (BitVec 8)) 0).bind fun y1 =>
  (L_mcase_Codes_Schema y1).bind fun y2 =>
  (mkM (α := T_api_Match) 64 2).bind fun y3 =>
  (some (({ (default : T_api_Entry) with f_Table := 3, f_Matches := y3, f_Priority := 5, f_Action := 1 } : T_api_Entry))).bind fun z1 =>
  (some (({ (default : T_api_Installed) with f_Entry := z1, f_Number := 1 } : T_api_Installed))).bind fun z2 =>
  (mkM (α := T_api_Match) 64 2).bind fun y4 =>
  (some (({ (default : T_api_Entry) with f_Table := 3, f_Matches := y4, f_Priority := 4, f_Action := 1 } : T_api_Entry))).bind fun z3 =>
  (some (({ (default : T_api_Installed) with f_Entry := z3, f_Number := 2 } : T_api_Installed))).bind fun z4 =>
  (L_shadow_Check y2.1 [z2, z4] 2).bind fun y5 =>
  (L_shadow_Check y2.1 [z2, z4] 1).bind fun y6 =>
  some (((y5.1 && (!y6.1)) && (y5.2 == 0)) && (y6.2 == 0))
def L_law27_ShadowBudget (x0 : List (BitVec 8)) (x1 : Int) : Option Bool :=
  (L_mcase_New ([] : List (BitVec 8)) 0).bind fun y1 =>
  (L_mcase_Codes_Schema y1).bind fun y2 =>
  (L_mcase_Mod x1 3).bind fun y3 =>
  (loopM (σ := Int × (List T_api_Installed)) (ε := (Int × Bool × (List T_api_Installed))) FUEL (fun s1 =>
    cond (decide (s1.1 < (w64 (15 + y3)))) (
      (some (({ (default : T_api_Value) with f_Lo := BitVec.ofInt 64 s1.1 } : T_api_Value))).bind fun z1 =>
      (some (({ (default : T_api_Match) with f_Present := true, f_Mask := ({ (default : T_api_Value) with f_Lo := 255#64 } : T_api_Value), f_Value := z1 } : T_api_Match))).bind fun z2 =>
      (some (({ (default : T_api_Entry) with f_Table := 3, f_Matches := [z2, (default : T_api_Match)], f_Priority := 9, f_Action := 1 } : T_api_Entry))).bind fun z3 =>
      (some (({ (default : T_api_Installed) with f_Entry := z3, f_Number := w64 (s1.1 + 1) } : T_api_Installed))).bind fun z4 =>
      (appM 88 s1.2 [z4]).bind fun y4 =>
      some (.inl (w64 (s1.1 + 1), y4))) (
      some (.inr (s1.1, decide (s1.1 < (w64 (15 + y3))), s1.2)))) (0, ([] : List T_api_Installed))).bind fun e1 =>
  (mkM (α := T_api_Match) 64 2).bind fun y5 =>
  (some (({ (default : T_api_Entry) with f_Table := 3, f_Matches := y5, f_Priority := 1, f_Action := 1 } : T_api_Entry))).bind fun z5 =>
  (some (({ (default : T_api_Installed) with f_Entry := z5, f_Number := 90 } : T_api_Installed))).bind fun z6 =>
  (appM 88 e1.2.2 [z6]).bind fun y6 =>
  (L_shadow_Check y2.1 y6 90).bind fun y7 =>
  (L_shadow_Witness y2.1 y6 90).bind fun y8 =>
  cond (decide ((w64 (15 + y3)) > 16)) (
    (condM ((((!y7.1) && (y7.2 == 26)) && (!y8.2.1)) && (y8.2.2 == y7.2)) true (L_law27_begun)).bind fun y9 =>
    some (((((!y7.1) && (y7.2 == 26)) && (!y8.2.1)) && (y8.2.2 == y7.2)) && y9)) (
    (some (((((!y7.1) && (y7.2 == 0)) && (y8.2.2 == y7.2)) && y8.2.1) && (decide (y8.1 = vset (default : Vector T_api_Value 4) 0 ({ (default : T_api_Value) with f_Lo := BitVec.ofInt 64 (w64 (15 + y3)) } : T_api_Value))))).bind fun z7 =>
    (condM z7 true (L_law27_begun)).bind fun y10 =>
    some (z7 && y10))
end Go.Proofs.Ytodajdohokmjnaa
