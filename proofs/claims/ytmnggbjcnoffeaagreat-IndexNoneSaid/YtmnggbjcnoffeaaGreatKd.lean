/-
  Each function of the translation as a functional program. Conditions: none.
-/
import Derived.Test.YtmnggbjcnoffeaaGreatKt
namespace Go.Proofs.YtmnggbjcnoffeaaGreat
open Go Gv
set_option linter.unusedVariables false
set_option linter.unusedSimpArgs false
set_option maxRecDepth 100000
def L_mcase_New (x0 : List (BitVec 8)) (x1 : Int) : Option T_mcase_Codes :=
  (sliceM x0 0 (min (x0.length : Int) x1)).bind fun y1 =>
  some ({ (default : T_mcase_Codes) with f_l := y1 } : T_mcase_Codes)
def L_mcase_Codes_Left (x0 : T_mcase_Codes) : Option Bool :=
  some (decide (x0.f_at < (x0.f_l.length : Int)))
def L_mcase_Codes_Next (x0 : T_mcase_Codes) (x1 : Int) : Option (Int × T_mcase_Codes) :=
  (L_mcase_Codes_Left x0).bind fun y1 =>
  cond ((!y1) || (decide (x1 < 1))) (
    some (0, x0)) (
    (idx x0.f_l.length (w64 ((w64 (x0.f_at + 1)) - 1))).bind fun k1 =>
    (modM ((lget x0.f_l k1).toNat : Int) x1).bind fun y2 =>
    some (y2, ({ x0 with f_at := w64 (x0.f_at + 1) } : T_mcase_Codes)))
def L_mcase_Codes_Bool (x0 : T_mcase_Codes) : Option (Bool × T_mcase_Codes) :=
  (L_mcase_Codes_Next x0 2).bind fun y1 =>
  some (y1.1 == 1, y1.2)
def L_mcase_Codes_states (x0 : T_mcase_Codes) : Option ((List T_api_State) × T_mcase_Codes) :=
  (L_mcase_Codes_Next x0 4).bind fun y1 =>
  (idx (([0, 0, 65535, 3] : List Int).length) y1.1).bind fun k1 =>
  (some ({ f_Value := ({ (default : T_api_Value) with f_Lo := 1#64 } : T_api_Value), f_Mask := ({ (default : T_api_Value) with f_Lo := 15#64 } : T_api_Value), f_Next := 2 : T_api_Case })).bind fun z1 =>
  (some ({ f_Value := ({ (default : T_api_Value) with f_Lo := 2#64 } : T_api_Value), f_Mask := ({ (default : T_api_Value) with f_Lo := 3#64 } : T_api_Value), f_Next := 3 : T_api_Case })).bind fun z2 =>
  (L_mcase_Codes_Bool y1.2).bind fun y2 =>
  (cond y2.1 (
    (L_mcase_Codes_Next y2.2 2).bind fun y6 =>
    (some (({ (default : T_api_Value) with f_Lo := BitVec.ofInt 64 (w64 (8 * y6.1)) } : T_api_Value))).bind fun z7 =>
    (L_mcase_Codes_Next y6.2 4).bind fun y7 =>
    (idx (([0, 0, 65535, 3] : List Int).length) y7.1).bind fun k3 =>
    (some ({ f_Value := z7, f_Mask := ({ (default : T_api_Value) with f_Lo := 8#64 } : T_api_Value), f_Next := lget ([0, 0, 65535, 3] : List Int) k3 : T_api_Case })).bind fun z8 =>
    (appM 40 [z1, z2] [z8]).bind fun y8 =>
    some (y7.2, y8)) (
    some (y2.2, [z1, z2]))).bind fun m1 =>
  (L_mcase_Codes_Next m1.1 4).bind fun y3 =>
  (idx (([0, 0, 65535, 3] : List Int).length) y3.1).bind fun k2 =>
  (some (({ (default : T_api_State) with f_ID := 2, f_Header := 2, f_Default := lget ([0, 0, 65535, 3] : List Int) k2 } : T_api_State))).bind fun z3 =>
  (some (({ (default : T_api_State) with f_ID := 3, f_Header := 3, f_Select := 9, f_Default := 0 } : T_api_State))).bind fun z4 =>
  (L_mcase_Codes_Next y3.2 3).bind fun y4 =>
  (cond (y4.1 == 1) (
    (L_mcase_Codes_Next y4.2 3).bind fun y5 =>
    (some ({ f_Value := ({ (default : T_api_Value) with f_Lo := 5#64 } : T_api_Value), f_Mask := ({ (default : T_api_Value) with f_Lo := 15#64 } : T_api_Value), f_Next := w64 (1 + y5.1) : T_api_Case })).bind fun z6 =>
    some (y5.2, ({ z4 with f_Cases := [z6] } : T_api_State))) (
    some (y4.2, z4))).bind fun m2 =>
  (some (({ ({ (default : T_api_State) with f_ID := 1, f_Header := 1, f_Select := 4, f_Default := lget ([0, 0, 65535, 3] : List Int) k1 } : T_api_State) with f_Cases := m1.2 } : T_api_State))).bind fun z5 =>
  some ([z5, z3, m2.2], m2.1)
def L_mcase_Codes_actions (x0 : T_mcase_Codes) : Option ((List T_api_Action) × T_mcase_Codes) :=
  (some (({ (default : T_api_Action) with f_ID := 1, f_Name := ByteArray.mk #[110, 111, 112] } : T_api_Action))).bind fun z1 =>
  (some (({ (default : T_api_Action) with f_ID := 2, f_Name := ByteArray.mk #[100, 114, 111, 112], f_Body := [({ (default : T_api_Prim) with f_Op := 6 } : T_api_Prim)] } : T_api_Action))).bind fun z2 =>
  (some ({ f_Name := ByteArray.mk #[112, 111, 114, 116], f_Bits := 16 : T_api_Param })).bind fun z3 =>
  (some (({ (default : T_api_Prim) with f_Op := 7, f_Src := ({ (default : T_api_Operand) with f_Kind := 3 } : T_api_Operand) } : T_api_Prim))).bind fun z4 =>
  (some (({ (default : T_api_Action) with f_ID := 3, f_Name := ByteArray.mk #[102, 111, 114, 119, 97, 114, 100], f_Params := [z3], f_Body := [z4] } : T_api_Action))).bind fun z5 =>
  (some ({ f_Op := 1, f_Dst := 5, f_Src := ({ (default : T_api_Operand) with f_Kind := 3 } : T_api_Operand) : T_api_Prim })).bind fun z6 =>
  (some (({ (default : T_api_Operand) with f_Kind := 2, f_N := 5 } : T_api_Operand))).bind fun z7 =>
  (some (({ (default : T_api_Action) with f_ID := 4, f_Name := ByteArray.mk #[116, 97, 103], f_Params := [{ f_Name := ByteArray.mk #[120], f_Bits := 4 : T_api_Param }], f_Body := [z6, { f_Op := 2, f_Dst := 3, f_Src := z7 : T_api_Prim }] } : T_api_Action))).bind fun z8 =>
  (some ([{ f_Name := ByteArray.mk #[120], f_Bits := 4 : T_api_Param }, { f_Name := ByteArray.mk #[121], f_Bits := 12 : T_api_Param }])).bind fun z9 =>
  (some ({ f_Op := 1, f_Dst := 9, f_Src := ({ (default : T_api_Operand) with f_Kind := 3 } : T_api_Operand) : T_api_Prim })).bind fun z10 =>
  (some (({ (default : T_api_Operand) with f_Kind := 3, f_N := 1 } : T_api_Operand))).bind fun z11 =>
  (some ([({ (default : T_api_Prim) with f_Op := 4, f_Dst := 3 } : T_api_Prim), z10, { f_Op := 3, f_Dst := 8, f_Src := z11 : T_api_Prim }])).bind fun z12 =>
  (some (({ (default : T_api_Action) with f_ID := 5, f_Name := ByteArray.mk #[119, 114, 97, 112], f_Params := z9, f_Body := z12 } : T_api_Action))).bind fun z13 =>
  (L_mcase_Codes_Next x0 2).bind fun y1 =>
  (some (({ (default : T_api_Prim) with f_Op := 5, f_Dst := w64 (2 + y1.1) } : T_api_Prim))).bind fun z14 =>
  (L_mcase_Codes_Next y1.2 256).bind fun y2 =>
  (some (({ (default : T_api_Value) with f_Lo := BitVec.ofInt 64 y2.1 } : T_api_Value))).bind fun z15 =>
  (some (({ (default : T_api_Operand) with f_Kind := 1, f_Value := z15 } : T_api_Operand))).bind fun z16 =>
  (some (({ (default : T_api_Action) with f_ID := 6, f_Name := ByteArray.mk #[115, 116, 114, 105, 112], f_Body := [z14, { f_Op := 2, f_Dst := 6, f_Src := z16 : T_api_Prim }] } : T_api_Action))).bind fun z17 =>
  (L_mcase_Codes_Bool y2.2).bind fun y3 =>
  (cond y3.1 (
    (idx ([z1, z2, z5, z8, z13, z17].length) 2).bind fun k2 =>
    (some (lset [z1, z2, z5, z8, z13, z17] k2 ({ (lget [z1, z2, z5, z8, z13, z17] k2) with f_Restriction := ByteArray.mk #[112, 111, 114, 116, 32, 33, 61, 32, 48] } : T_api_Action))).bind fun z19 =>
    some z19) (
    some [z1, z2, z5, z8, z13, z17])).bind fun m1 =>
  (L_mcase_Codes_Bool y3.2).bind fun y4 =>
  (cond y4.1 (
    (idx m1.length 4).bind fun k1 =>
    (some (lset m1 k1 ({ (lget m1 k1) with f_Restriction := ByteArray.mk #[120, 32, 60, 32, 121, 32, 124, 124, 32, 120, 32, 61, 61, 32, 49, 53] } : T_api_Action))).bind fun z18 =>
    some z18) (
    some m1)).bind fun m2 =>
  some (m2, y4.2)
def L_mcase_Codes_tables (x0 : T_mcase_Codes) : Option ((List T_api_Table) × T_mcase_Codes) :=
  (some ({ f_Name := ByteArray.mk #[97], f_Field := 4, f_Kind := 1 : T_api_Key })).bind fun z1 =>
  (L_mcase_Codes_Next x0 2).bind fun y1 =>
  (L_mcase_Codes_Next y1.2 5).bind fun y2 =>
  (some (({ (default : T_api_Table) with f_ID := 1, f_Name := ByteArray.mk #[112, 111, 114, 116, 115], f_Keys := [z1], f_Actions := ([1, 2, 4] : List Int), f_Default := w64 (1 + y1.1), f_Size := w64 (2 + y2.1) } : T_api_Table))).bind fun z2 =>
  (some ({ f_Name := ByteArray.mk #[100], f_Field := 7, f_Kind := 2 : T_api_Key })).bind fun z3 =>
  (L_mcase_Codes_Next y2.2 6).bind fun y3 =>
  (L_mcase_Codes_Bool y3.2).bind fun y4 =>
  (cond y4.1 (
    (some ({ f_Name := ByteArray.mk #[109], f_Field := 3, f_Kind := 1 : T_api_Key })).bind fun z16 =>
    (appM 32 [z3] [z16]).bind fun y12 =>
    some (({ ({ (default : T_api_Table) with f_ID := 2, f_Name := ByteArray.mk #[114, 111, 117, 116, 101, 115], f_Actions := ([1, 2, 3, 4] : List Int), f_Default := 2, f_Size := w64 (3 + y3.1) } : T_api_Table) with f_Keys := [] } : T_api_Table), y12)) (
    some (({ (default : T_api_Table) with f_ID := 2, f_Name := ByteArray.mk #[114, 111, 117, 116, 101, 115], f_Actions := ([1, 2, 3, 4] : List Int), f_Default := 2, f_Size := w64 (3 + y3.1) } : T_api_Table), [z3]))).bind fun m1 =>
  (some ({ f_Name := ByteArray.mk #[101], f_Field := 6, f_Kind := 3 : T_api_Key })).bind fun z4 =>
  (some ({ f_Name := ByteArray.mk #[97], f_Field := 4, f_Kind := 3 : T_api_Key })).bind fun z5 =>
  (L_mcase_Codes_Next y4.2 6).bind fun y5 =>
  (L_mcase_Codes_Bool y5.2).bind fun y6 =>
  (cond y6.1 (
    (some ({ f_Name := ByteArray.mk #[98], f_Field := 5, f_Kind := 1 : T_api_Key })).bind fun z15 =>
    (appM 32 [z4, z5] [z15]).bind fun y11 =>
    some (({ ({ (default : T_api_Table) with f_ID := 3, f_Name := ByteArray.mk #[97, 99, 108], f_Actions := ([1, 2, 3, 5, 6] : List Int), f_Default := 1, f_Size := w64 (4 + y5.1) } : T_api_Table) with f_Keys := [] } : T_api_Table), y11)) (
    some (({ (default : T_api_Table) with f_ID := 3, f_Name := ByteArray.mk #[97, 99, 108], f_Actions := ([1, 2, 3, 5, 6] : List Int), f_Default := 1, f_Size := w64 (4 + y5.1) } : T_api_Table), [z4, z5]))).bind fun m2 =>
  (some ({ f_Name := ByteArray.mk #[102], f_Field := 8, f_Kind := 4 : T_api_Key })).bind fun z6 =>
  (L_mcase_Codes_Next y6.2 5).bind fun y7 =>
  (L_mcase_Codes_Bool y7.2).bind fun y8 =>
  (cond y8.1 (
    (some ({ f_Name := ByteArray.mk #[103], f_Field := 9, f_Kind := 1 : T_api_Key })).bind fun z13 =>
    (some ({ f_Name := ByteArray.mk #[100], f_Field := 7, f_Kind := 2 : T_api_Key })).bind fun z14 =>
    (appM 32 [z6] [z13, z14]).bind fun y10 =>
    some (({ ({ (default : T_api_Table) with f_ID := 4, f_Name := ByteArray.mk #[115, 112, 97, 110, 115], f_Actions := ([1, 3, 5] : List Int), f_Default := 3, f_DefaultArgs := [({ (default : T_api_Value) with f_Lo := 7#64 } : T_api_Value)], f_Size := w64 (3 + y7.1) } : T_api_Table) with f_Keys := [] } : T_api_Table), y10)) (
    some (({ (default : T_api_Table) with f_ID := 4, f_Name := ByteArray.mk #[115, 112, 97, 110, 115], f_Actions := ([1, 3, 5] : List Int), f_Default := 3, f_DefaultArgs := [({ (default : T_api_Value) with f_Lo := 7#64 } : T_api_Value)], f_Size := w64 (3 + y7.1) } : T_api_Table), [z6]))).bind fun m3 =>
  (some ([z2, ({ m1.1 with f_Keys := m1.2 } : T_api_Table), ({ m2.1 with f_Keys := m2.2 } : T_api_Table), ({ m3.1 with f_Keys := m3.2 } : T_api_Table)])).bind fun z7 =>
  (some ([ByteArray.mk #[], ByteArray.mk #[97, 32, 33, 61, 32, 48], ByteArray.mk #[97, 32, 60, 32, 49, 52, 32, 38, 38, 32, 97, 32, 33, 61, 32, 51]])).bind fun z8 =>
  (some ([ByteArray.mk #[], ByteArray.mk #[100, 58, 58, 112, 114, 101, 102, 105, 120, 95, 108, 101, 110, 103, 116, 104, 32, 62, 61, 32, 56], ByteArray.mk #[100, 58, 58, 112, 114, 101, 102, 105, 120, 95, 108, 101, 110, 103, 116, 104, 32, 61, 61, 32, 51, 50, 32, 45, 62, 32, 100, 58, 58, 118, 97, 108, 117, 101, 32, 62, 32, 48, 120, 102, 102]])).bind fun z9 =>
  (some ([ByteArray.mk #[], ByteArray.mk #[112, 114, 105, 111, 114, 105, 116, 121, 32, 60, 32, 49, 48, 48, 32, 38, 38, 32, 40, 101, 58, 58, 109, 97, 115, 107, 32, 33, 61, 32, 48, 32, 124, 124, 32, 97, 58, 58, 109, 97, 115, 107, 32, 33, 61, 32, 48, 41], ByteArray.mk #[101, 58, 58, 109, 97, 115, 107, 32, 61, 61, 32, 48, 32, 45, 62, 32, 112, 114, 105, 111, 114, 105, 116, 121, 32, 62, 32, 53]])).bind fun z10 =>
  (some ([ByteArray.mk #[], ByteArray.mk #[102, 58, 58, 104, 105, 103, 104, 32, 45, 32, 102, 58, 58, 108, 111, 119, 32, 60, 61, 32, 48, 120, 49, 48, 48], ByteArray.mk #[33, 40, 102, 58, 58, 108, 111, 119, 32, 61, 61, 32, 48, 32, 38, 38, 32, 102, 58, 58, 104, 105, 103, 104, 32, 62, 32, 49, 48, 48, 48, 41]])).bind fun z11 =>
  (loopM (σ := Int × (List T_api_Table) × T_mcase_Codes) (ε := (Int × Bool × (List T_api_Table) × T_mcase_Codes)) FUEL (fun s1 =>
    cond (decide (s1.1 < (z7.length : Int))) (
      (idx ([z8, z9, z10, z11].length) s1.1).bind fun k1 =>
      (L_mcase_Codes_Next s1.2.2 3).bind fun y9 =>
      (idx ((lget [z8, z9, z10, z11] k1).length) y9.1).bind fun k2 =>
      (idx s1.2.1.length s1.1).bind fun k3 =>
      (some (lset s1.2.1 k3 ({ (lget s1.2.1 k3) with f_Restriction := lget (lget [z8, z9, z10, z11] k1) k2 } : T_api_Table))).bind fun z12 =>
      some (.inl (w64 (s1.1 + 1), z12, y9.2))) (
      some (.inr (s1.1, decide (s1.1 < (z7.length : Int)), s1.2.1, s1.2.2)))) (0, z7, y8.2)).bind fun e1 =>
  some (e1.2.2.1, e1.2.2.2)
def L_mcase_Codes_roles (x0 : T_mcase_Codes) (x1 : List T_api_Table) : Option ((List T_api_Role) × T_mcase_Codes) :=
  (L_mcase_Codes_Next x0 3).bind fun y1 =>
  (L_mcase_Codes_Next y1.2 6).bind fun y2 =>
  (L_mcase_Codes_Next y2.2 6).bind fun y3 =>
  (L_mcase_Codes_Next y3.2 4).bind fun y4 =>
  (loopM (σ := Int × T_api_Role × (List T_api_Grant) × T_mcase_Codes × T_api_Role × (List T_api_Grant) × T_api_Role × (List T_api_Grant)) (ε := (Int × Bool × T_api_Role × (List T_api_Grant) × T_mcase_Codes × T_api_Role × (List T_api_Grant) × T_api_Role × (List T_api_Grant))) FUEL (fun s1 =>
    cond (decide (s1.1 < (x1.length : Int))) (
      (idx x1.length s1.1).bind fun k1 =>
      (mkM (α := Bool) 1 (((lget x1 k1).f_Keys).length : Int)).bind fun y5 =>
      (mkM (α := Bool) 1 (((lget x1 k1).f_Keys).length : Int)).bind fun y6 =>
      (loopM (σ := Int × (List Bool) × (List Bool) × T_mcase_Codes) (ε := (Int × Bool × (List Bool) × (List Bool) × T_mcase_Codes)) FUEL (fun s2 =>
        cond (decide (s2.1 < (y5.length : Int))) (
          (L_mcase_Codes_Next s2.2.2.2 4).bind fun y7 =>
          (idx s2.2.2.1.length s2.1).bind fun k2 =>
          (idx s2.2.1.length s2.1).bind fun k3 =>
          some (.inl (w64 (s2.1 + 1), lset s2.2.1 k3 (decide (y7.1 > 0)), lset s2.2.2.1 k2 true, y7.2))) (
          some (.inr (s2.1, decide (s2.1 < (y5.length : Int)), s2.2.1, s2.2.2.1, s2.2.2.2)))) (0, y6, y5, s1.2.2.2.1)).bind fun e2 =>
      (some ({ f_Table := (lget x1 k1).f_ID, f_Read := true, f_Write := true, f_Keys := e2.2.2.2.1 : T_api_Grant })).bind fun z1 =>
      (appM 40 s1.2.2.2.2.2.2.2 [z1]).bind fun y8 =>
      (L_mcase_Codes_Next e2.2.2.2.2 4).bind fun y9 =>
      (cond (decide (y9.1 > 0)) (
        (L_mcase_Codes_Next y9.2 4).bind fun y14 =>
        (L_mcase_Codes_Bool y14.2).bind fun y15 =>
        (some ({ f_Table := (lget x1 k1).f_ID, f_Read := decide (y14.1 > 0), f_Write := y15.1, f_Keys := e2.2.2.1 : T_api_Grant })).bind fun z3 =>
        (appM 40 s1.2.2.2.2.2.1 [z3]).bind fun y16 =>
        some (y15.2, ({ s1.2.2.2.2.1 with f_Grants := [] } : T_api_Role), y16)) (
        some (y9.2, s1.2.2.2.2.1, s1.2.2.2.2.2.1))).bind fun m1 =>
      (L_mcase_Codes_Bool m1.1).bind fun y10 =>
      (cond y10.1 (
        (L_mcase_Codes_Bool y10.2).bind fun y11 =>
        (L_mcase_Codes_Bool y11.2).bind fun y12 =>
        (some ({ f_Table := (lget x1 k1).f_ID, f_Read := y11.1, f_Write := y12.1, f_Keys := e2.2.2.2.1 : T_api_Grant })).bind fun z2 =>
        (appM 40 s1.2.2.1 [z2]).bind fun y13 =>
        some (y12.2, ({ s1.2.1 with f_Grants := [] } : T_api_Role), y13)) (
        some (y10.2, s1.2.1, s1.2.2.1))).bind fun m2 =>
      some (.inl (w64 (s1.1 + 1), m2.2.1, m2.2.2, m2.1, m1.2.1, m1.2.2, ({ s1.2.2.2.2.2.2.1 with f_Grants := [] } : T_api_Role), y8))) (
      some (.inr (s1.1, decide (s1.1 < (x1.length : Int)), s1.2.1, s1.2.2.1, s1.2.2.2.1, s1.2.2.2.2.1, s1.2.2.2.2.2.1, s1.2.2.2.2.2.2.1, s1.2.2.2.2.2.2.2)))) (0, ({ (default : T_api_Role) with f_ID := 7, f_Name := ByteArray.mk #[102, 101, 119], f_Actions := [w64 (1 + y3.1)], f_Quota := y4.1 } : T_api_Role), ([] : List T_api_Grant), y4.2, ({ (default : T_api_Role) with f_ID := 2, f_Name := ByteArray.mk #[115, 111, 109, 101], f_Actions := ([1, 2, w64 (3 + y1.1)] : List Int), f_Quota := w64 (1 + y2.1) } : T_api_Role), ([] : List T_api_Grant), ({ (default : T_api_Role) with f_ID := 1, f_Name := ByteArray.mk #[97, 108, 108], f_Actions := ([1, 2, 3, 4, 5, 6] : List Int), f_Quota := 40, f_Audit := true } : T_api_Role), ([] : List T_api_Grant))).bind fun e1 =>
  (some (({ e1.2.2.2.2.2.2.2.1 with f_Grants := e1.2.2.2.2.2.2.2.2 } : T_api_Role))).bind fun z4 =>
  (some ([z4, ({ e1.2.2.2.2.2.1 with f_Grants := e1.2.2.2.2.2.2.1 } : T_api_Role), ({ e1.2.2.1 with f_Grants := e1.2.2.2.1 } : T_api_Role)])).bind fun z5 =>
  some (z5, e1.2.2.2.2.1)
def L_mcase_Codes_Schema (x0 : T_mcase_Codes) : Option (T_api_Schema × T_mcase_Codes) :=
  (L_mcase_Codes_Next x0 8).bind fun y1 =>
  (L_mcase_Codes_Next y1.2 30).bind fun y2 =>
  (some ({ f_ID := 1, f_Name := ByteArray.mk #[105, 110, 103, 114, 101, 115, 115], f_Bits := 16 : T_api_Field })).bind fun z1 =>
  (some ({ f_ID := 2, f_Name := ByteArray.mk #[101, 103, 114, 101, 115, 115], f_Bits := 16 : T_api_Field })).bind fun z2 =>
  (some ({ f_ID := 3, f_Name := ByteArray.mk #[109, 101, 116, 97], f_Bits := 8 : T_api_Field })).bind fun z3 =>
  (some ({ f_ID := 6, f_Name := ByteArray.mk #[101], f_Bits := 8 : T_api_Field })).bind fun z4 =>
  (some ({ f_ID := 7, f_Name := ByteArray.mk #[100], f_Bits := 32 : T_api_Field })).bind fun z5 =>
  (some ({ f_ID := 8, f_Name := ByteArray.mk #[102], f_Bits := 12 : T_api_Field })).bind fun z6 =>
  (some ({ f_ID := 9, f_Name := ByteArray.mk #[103], f_Bits := 4 : T_api_Field })).bind fun z7 =>
  (some ([z1, z2, z3, { f_ID := 4, f_Name := ByteArray.mk #[97], f_Bits := 4 : T_api_Field }, { f_ID := 5, f_Name := ByteArray.mk #[98], f_Bits := 4 : T_api_Field }, z4, z5, z6, z7])).bind fun z8 =>
  (some (({ ({ (default : T_api_Schema) with f_MaxBatch := w64 (2 + y1.1), f_Budget := w64 (12 + y2.1) } : T_api_Schema) with f_Fields := z8 } : T_api_Schema))).bind fun z9 =>
  (some ({ f_ID := 1, f_Name := ByteArray.mk #[111, 110, 101], f_Fields := ([4, 5, 6] : List Int) : T_api_Header })).bind fun z10 =>
  (some ({ f_ID := 2, f_Name := ByteArray.mk #[116, 119, 111], f_Fields := ([7] : List Int) : T_api_Header })).bind fun z11 =>
  (some ({ f_ID := 3, f_Name := ByteArray.mk #[116, 104, 114, 101, 101], f_Fields := ([8, 9] : List Int) : T_api_Header })).bind fun z12 =>
  (L_mcase_Codes_states y2.2).bind fun y3 =>
  (L_mcase_Codes_actions y3.2).bind fun y4 =>
  (L_mcase_Codes_tables y4.2).bind fun y5 =>
  (some (({ ({ z9 with f_Headers := [z10, z11, z12] } : T_api_Schema) with f_States := y3.1 } : T_api_Schema))).bind fun z13 =>
  (some (({ ({ z13 with f_Actions := y4.1 } : T_api_Schema) with f_Tables := y5.1 } : T_api_Schema))).bind fun z14 =>
  (L_mcase_Codes_roles y5.2 z14.f_Tables).bind fun y6 =>
  (some ([{ f_Table := 1, f_Header := 1 : T_api_Stage }, { f_Table := 2, f_Header := 2 : T_api_Stage }, ({ (default : T_api_Stage) with f_Table := 3 } : T_api_Stage), { f_Table := 4, f_Header := 3 : T_api_Stage }])).bind fun z15 =>
  (L_mcase_Codes_Bool y6.2).bind fun y7 =>
  (cond y7.1 (
    (appM 16 z15 [({ (default : T_api_Stage) with f_Table := 1 } : T_api_Stage)]).bind fun y14 =>
    some y14) (
    some z15)).bind fun m1 =>
  (L_mcase_Codes_Bool y7.2).bind fun y8 =>
  (cond y8.1 (
    (some (({ (default : T_api_Ref) with f_Table := 2, f_Action := 4, f_ToTable := 1 } : T_api_Ref))).bind fun z20 =>
    (appM 48 ([] : List T_api_Ref) [z20]).bind fun y13 =>
    some (({ ({ ({ z14 with f_Roles := y6.1 } : T_api_Schema) with f_Stages := [] } : T_api_Schema) with f_Refs := [] } : T_api_Schema), y13)) (
    some (({ ({ z14 with f_Roles := y6.1 } : T_api_Schema) with f_Stages := [] } : T_api_Schema), ([] : List T_api_Ref)))).bind fun m2 =>
  (L_mcase_Codes_Bool y8.2).bind fun y9 =>
  (condM y9.1 true (idx m2.1.f_Tables.length 2)).bind fun k1 =>
  (cond (y9.1 && ((((lget m2.1.f_Tables k1).f_Keys).length : Int) == 3)) (
    (some (({ (default : T_api_Ref) with f_Table := 3, f_Key := 2, f_ToTable := 1 } : T_api_Ref))).bind fun z19 =>
    (appM 48 m2.2 [z19]).bind fun y12 =>
    some (({ m2.1 with f_Refs := [] } : T_api_Schema), y12)) (
    some (m2.1, m2.2))).bind fun m3 =>
  (L_mcase_Codes_Bool y9.2).bind fun y10 =>
  (condM y10.1 true (idx m3.1.f_Tables.length 3)).bind fun k2 =>
  (cond (y10.1 && ((((lget m3.1.f_Tables k2).f_Keys).length : Int) == 3)) (
    (some (({ (default : T_api_Ref) with f_Table := 4, f_Key := 1, f_ToTable := 1 } : T_api_Ref))).bind fun z17 =>
    (some (({ (default : T_api_Ref) with f_Table := 4, f_Action := 5, f_ToTable := 1 } : T_api_Ref))).bind fun z18 =>
    (appM 48 m3.2 [z17, z18]).bind fun y11 =>
    some (({ m3.1 with f_Refs := [] } : T_api_Schema), y11)) (
    some (m3.1, m3.2))).bind fun m4 =>
  (some (({ ({ m4.1 with f_Stages := m1 } : T_api_Schema) with f_Refs := m4.2 } : T_api_Schema))).bind fun z16 =>
  some (z16, y10.2)
def L_check_TableOf_fn1 (x0 : T_api_Table) (x1 : Int) : Option Bool :=
  some (x0.f_ID == x1)
def L_slices_IndexFunc_api_Table (x0 : List T_api_Table) (x1 : T_api_Table → Option Bool) : Option Int :=
  (loopM (σ := Int) (ε := (Int × Bool) ⊕ (Int × Int × Int × Bool × Bool)) FUEL (fun s1 =>
    cond (decide (s1 < (x0.length : Int))) (
      (idx x0.length s1).bind fun k1 =>
      (x1 (lget x0 k1)).bind fun y1 =>
      cond y1 (
        some (.inr (Sum.inr (s1, s1, s1, decide (s1 < (x0.length : Int)), y1)))) (
        some (.inl (w64 (s1 + 1))))) (
      some (.inr (Sum.inl (s1, decide (s1 < (x0.length : Int))))))) 0).bind fun e1 =>
    Sum.elim (fun e1 =>
      some (-1)) (fun e1 =>
    some e1.1) e1
def L_check_TableOf (x0 : T_api_Schema) (x1 : Int) : Option Int :=
  (L_slices_IndexFunc_api_Table x0.f_Tables (fun a0 => L_check_TableOf_fn1 a0 x1)).bind fun y1 =>
  some y1
def L_index_kindOf (x0 : T_api_Table) : Option (Int × Int) :=
  (loopM (σ := Int × Int × Int) (ε := (Int × Int × Int × Bool)) FUEL (fun s1 =>
    cond (decide (s1.2.2 < (x0.f_Keys.length : Int))) (
      (idx x0.f_Keys.length s1.2.2).bind fun k1 =>
      (cond (((lget x0.f_Keys k1).f_Kind) == 1) (
        some (s1.1, s1.2.1)) (
        (cond (((lget x0.f_Keys k1).f_Kind) == 2) (
          some (max s1.1 2, s1.2.2)) (
          some (3, s1.2.1))).bind fun m2 =>
        some (m2.1, m2.2))).bind fun m1 =>
      some (.inl (m1.1, m1.2, w64 (s1.2.2 + 1)))) (
      some (.inr (s1.1, s1.2.1, s1.2.2, decide (s1.2.2 < (x0.f_Keys.length : Int)))))) (1, 0, 0)).bind fun e1 =>
  some (e1.1, e1.2.1)
def L_exact_New (hp : Pool Cell) : Wm (Ref × (Pool Cell)) :=
  Wm.bind (Wm.mk hp (Cell.c222 ([] : List ((Vector T_api_Value 4) × Int)))) fun a1 =>
  Wm.bind (Wm.mk a1.2 (Cell.c224 ({ f_ids := (⟨some a1.1⟩ : MRef) : T_exact_Index }))) fun a2 =>
  Wm.ret ((some a2.1 : Ref), a2.2)
def L_check_FieldOf_fn1 (x0 : T_api_Field) (x1 : Int) : Option Bool :=
  some (x0.f_ID == x1)
def L_slices_IndexFunc_api_Field (x0 : List T_api_Field) (x1 : T_api_Field → Option Bool) : Option Int :=
  (loopM (σ := Int) (ε := (Int × Bool) ⊕ (Int × Int × Int × Bool × Bool)) FUEL (fun s1 =>
    cond (decide (s1 < (x0.length : Int))) (
      (idx x0.length s1).bind fun k1 =>
      (x1 (lget x0 k1)).bind fun y1 =>
      cond y1 (
        some (.inr (Sum.inr (s1, s1, s1, decide (s1 < (x0.length : Int)), y1)))) (
        some (.inl (w64 (s1 + 1))))) (
      some (.inr (Sum.inl (s1, decide (s1 < (x0.length : Int))))))) 0).bind fun e1 =>
    Sum.elim (fun e1 =>
      some (-1)) (fun e1 =>
    some e1.1) e1
def L_check_FieldOf (x0 : T_api_Schema) (x1 : Int) : Option Int :=
  (L_slices_IndexFunc_api_Field x0.f_Fields (fun a0 => L_check_FieldOf_fn1 a0 x1)).bind fun y1 =>
  some y1
def Lq0_1_ordered_New (x0 : T_api_Schema) : Option T_ordered_List :=
  some ({ ({ (default : T_ordered_List) with f_schema := x0 } : T_ordered_List) with f_l := ([] : List T_api_Installed) } : T_ordered_List)
def L_index_New (hp : Pool Cell) (x0 : T_api_Schema) (x1 : Int) : Wm (Ref × (Pool Cell)) :=
  Wm.bind (Wm.of (L_check_TableOf x0 x1)) fun y1 =>
  cond (decide (y1 < 0)) (
    Wm.ret ((none : Ref), hp)) (
    Wm.bind (Wm.of (idx x0.f_Tables.length y1)) fun k1 =>
    Wm.bind (Wm.of (L_index_kindOf (lget x0.f_Tables k1))) fun y2 =>
    Wm.bind (Wm.mk hp (Cell.c133 ([] : List (Int × T_api_Installed)))) fun a1 =>
    Wm.bind (Wm.of (some (({ (default : T_index_Index) with f_kind := y2.1, f_keys := (((lget x0.f_Tables k1).f_Keys).length : Int), f_entries := (⟨some a1.1⟩ : MRef) } : T_index_Index)))) fun z1 =>
    Wm.bind (Wm.mk a1.2 (Cell.c135 z1)) fun a2 =>
    Wm.bind (cond (y2.1 == 1) (
      Wm.bind (L_exact_New a2.2) fun y3 =>
      Wm.bind (Wm.of (rd135 y3.2 a2.1)) fun c1 =>
      Wm.bind (Wm.of (some (pup y3.2 a2.1 (Cell.c135 ({ c1 with f_finder := (T_index_finder.c166 ({ f_x := y3.1 : T_index_hashed })) } : T_index_Index))))) fun hp1 =>
      Wm.ret hp1) (
      Wm.bind (cond (y2.1 == 2) (
        Wm.bind (Wm.of (idx (((lget x0.f_Tables k1).f_Keys).length) y2.2)) fun k2 =>
        Wm.bind (Wm.of (L_check_FieldOf x0 ((lget ((lget x0.f_Tables k1).f_Keys) k2).f_Field))) fun y4 =>
        Wm.bind (Wm.of (cond (decide (y4 ≥ 0)) (
          (idx x0.f_Fields.length y4).bind fun k3 =>
          some ((lget x0.f_Fields k3).f_Bits)) (
          some 0))) fun m3 =>
        Wm.bind (Wm.mk a2.2 (Cell.c167 ([] : List ((Vector T_api_Value 4) × Ref)))) fun a3 =>
        Wm.bind (Wm.of (some ({ f_key := y2.2, f_bits := m3, f_tries := (⟨some a3.1⟩ : MRef) : T_index_prefixed }))) fun z2 =>
        Wm.bind (Wm.of (rd135 a3.2 a2.1)) fun c2 =>
        Wm.bind (Wm.of (some (pup a3.2 a2.1 (Cell.c135 ({ c2 with f_finder := (T_index_finder.c169 z2) } : T_index_Index))))) fun hp2 =>
        Wm.ret hp2) (
        Wm.bind (Wm.of (Lq0_1_ordered_New x0)) fun y5 =>
        Wm.bind (Wm.any (Option Nat × Nat)) fun q3 =>
        Wm.bind (Wm.mk a2.2 (Cell.c228 y5 q3.1 q3.2)) fun a4 =>
        Wm.bind (Wm.of (rd135 a4.2 a2.1)) fun c3 =>
        Wm.bind (Wm.of (some (pup a4.2 a2.1 (Cell.c135 ({ c3 with f_finder := (T_index_finder.c173 ({ f_l := (some a4.1 : Ref) : T_index_sorted })) } : T_index_Index))))) fun hp3 =>
        Wm.ret hp3)) fun m2 =>
      Wm.ret m2)) fun m1 =>
    Wm.ret ((some a2.1 : Ref), m1))
def L_index_point (x0 : T_api_Entry) : Option (Vector T_api_Value 4) :=
  (sliceM x0.f_Matches 0 (min (x0.f_Matches.length : Int) 4)).bind fun y1 =>
  (loopM (σ := Int × (Vector T_api_Value 4)) (ε := (Int × Bool × (Vector T_api_Value 4))) FUEL (fun s1 =>
    cond (decide (s1.1 < (y1.length : Int))) (
      (idx y1.length s1.1).bind fun k1 =>
      (idx 4 s1.1).bind fun k2 =>
      some (.inl (w64 (s1.1 + 1), vset s1.2 k2 ((lget y1 k1).f_Value)))) (
      some (.inr (s1.1, decide (s1.1 < (y1.length : Int)), s1.2)))) (0, (default : Vector T_api_Value 4))).bind fun e1 =>
  some e1.2.2
def L_exact_Index_Get (hp : Pool Cell) (x0 : Ref) (x1 : Vector T_api_Value 4) : Option (Int × Bool) :=
  cond x0.isNone (
    some (0, false)) (
    (x0).bind fun o1 =>
    (rd224 hp o1).bind fun c1 =>
    (c1.f_ids.p).bind fun o2 =>
    (rd222 hp o2).bind fun c2 =>
    (some (mget c2 x1)).bind fun z1 =>
    some (z1.getD default, z1.isSome))
def L_index_hashed_find (hp : Pool Cell) (x0 : T_index_hashed) (x1 : T_api_Entry) : Option (Int × Bool) :=
  (L_index_point x1).bind fun y1 =>
  (L_exact_Index_Get hp x0.f_x y1).bind fun y2 =>
  some (y2.1, y2.2)
def L_index_prefixed_split (x0 : T_index_prefixed) (x1 : Vector T_api_Value 4) : Option ((Vector T_api_Value 4) × T_api_Value) :=
  (idx 4 x0.f_key).bind fun k1 =>
  (idx 4 x0.f_key).bind fun k2 =>
  some ((vset x1 k2 (default : T_api_Value)), (vget x1 k1))
def L_index_prefixed_prefix (x0 : T_index_prefixed) (x1 : T_api_Entry) : Option ((Vector T_api_Value 4) × T_api_Value × Int) :=
  (L_index_point x1).bind fun y1 =>
  (L_index_prefixed_split x0 y1).bind fun y2 =>
  cond (decide (x0.f_key ≥ (x1.f_Matches.length : Int))) (
    some (y2.1, y2.2, 0)) (
    (idx x1.f_Matches.length x0.f_key).bind fun k1 =>
    some (y2.1, y2.2, (lget x1.f_Matches k1).f_Prefix))
def L_value_within (x0 : Int) : Option Int :=
  some (min (max 0 x0) 128)
def L_value_Right (x0 : T_api_Value) (x1 : Int) : Option T_api_Value :=
  cond (decide (x1 ≤ 0)) (
    some x0) (
    cond (decide (x1 ≥ 64)) (
      (some (({ (default : T_api_Value) with f_Lo := x0.f_Hi >>> (BitVec.ofInt 64 (w64 (x1 - 64))).toNat } : T_api_Value))).bind fun z1 =>
      some z1) (
      (some ((x0.f_Lo >>> (BitVec.ofInt 64 x1).toNat) ||| (x0.f_Hi <<< (BitVec.ofInt 64 (w64 (64 - x1))).toNat))).bind fun z2 =>
      (some ({ f_Hi := x0.f_Hi >>> (BitVec.ofInt 64 x1).toNat, f_Lo := z2 : T_api_Value })).bind fun z3 =>
      some z3))
def L_value_Ones (x0 : Int) : Option T_api_Value :=
  (some ({ f_Hi := 18446744073709551615#64, f_Lo := 18446744073709551615#64 : T_api_Value })).bind fun z1 =>
  (L_value_within x0).bind fun y1 =>
  (L_value_Right z1 (w64 (128 - y1))).bind fun y2 =>
  some y2
def L_value_Xor (x0 : T_api_Value) (x1 : T_api_Value) : Option T_api_Value :=
  (some ({ f_Hi := x0.f_Hi ^^^ x1.f_Hi, f_Lo := x0.f_Lo ^^^ x1.f_Lo : T_api_Value })).bind fun z1 =>
  some z1
def L_value_Leading (x0 : Int) (x1 : Int) : Option T_api_Value :=
  (L_value_within x0).bind fun y1 =>
  (L_value_Ones y1).bind fun y2 =>
  (L_value_Ones (w64 (y1 - (min (max 0 x1) y1)))).bind fun y3 =>
  (L_value_Xor y2 y3).bind fun y4 =>
  some y4
def L_value_And (x0 : T_api_Value) (x1 : T_api_Value) : Option T_api_Value :=
  (some ({ f_Hi := x0.f_Hi &&& x1.f_Hi, f_Lo := x0.f_Lo &&& x1.f_Lo : T_api_Value })).bind fun z1 =>
  some z1
def L_trie_Trie_prefix (hp : Pool Cell) (x0 : Ref) (x1 : T_api_Value) (x2 : Int) : Option Bool :=
  (condM (x0.isSome && (decide (x2 ≥ 0))) true (x0)).bind fun o1 =>
  (condM (x0.isSome && (decide (x2 ≥ 0))) true (rd337 hp o1)).bind fun c1 =>
  (condM ((x0.isSome && (decide (x2 ≥ 0))) && (decide (x2 ≤ c1.f_bits))) true (x0)).bind fun o2 =>
  (condM ((x0.isSome && (decide (x2 ≥ 0))) && (decide (x2 ≤ c1.f_bits))) true (rd337 hp o2)).bind fun c2 =>
  (condM ((x0.isSome && (decide (x2 ≥ 0))) && (decide (x2 ≤ c1.f_bits))) true (L_value_Leading c2.f_bits x2)).bind fun y1 =>
  (condM ((x0.isSome && (decide (x2 ≥ 0))) && (decide (x2 ≤ c1.f_bits))) true (L_value_And x1 y1)).bind fun y2 =>
  (some (((x0.isSome && (decide (x2 ≥ 0))) && (decide (x2 ≤ c1.f_bits))) && (decide (y2 = x1)))).bind fun z1 =>
  some z1
def L_trie_Trie_path (x0 : Ref) (x1 : T_api_Value) (x2 : Int) : Option (Int × T_api_Value × Ref) :=
  some (x2, x1, x0)
def L_value_Bit (x0 : T_api_Value) (x1 : Int) : Option Bool :=
  (condM ((decide (x1 ≥ 0)) && (decide (x1 < 128))) true (L_value_Right x0 x1)).bind fun y1 =>
  (some (((decide (x1 ≥ 0)) && (decide (x1 < 128))) && ((y1.f_Lo &&& (1#64)) == (1#64)))).bind fun z1 =>
  some z1
def L_trie_Trie_path_fn1 {σ ε : Type} (x1 : Int) (x2 : T_api_Value) (x3 : Ref) (hq : σ → Pool Cell) (step : Int → σ → Wm (σ ⊕ ε)) (s0 : σ) : Wm (σ ⊕ ε) :=
  Wm.bind (loopW (σ := Int × (σ)) (ε := (Int × Bool × (σ)) ⊕ (Int × Int × Int × Bool × Bool × Bool × (ε))) FUEL (fun s1 =>
    cond (decide (s1.1 < x1)) (
      Wm.bind (Wm.of (x3)) fun o1 =>
      Wm.bind (Wm.of (rd337 (hq s1.2) o1)) fun c1 =>
      Wm.bind (Wm.of (L_value_Bit x2 (w64 ((w64 (c1.f_bits - 1)) - s1.1)))) fun y1 =>
      Wm.bind (Wm.of (cond y1 (
        some 1) (
        some 0))) fun m1 =>
      Wm.bind (step m1 s1.2) fun y2 =>
      Sum.elim (fun s2 =>
        Wm.ret (.inl (w64 (s1.1 + 1), s2))) (fun q2 =>
        Wm.ret (.inr (Sum.inr (s1.1, m1, s1.1, decide (s1.1 < x1), y1, !false, q2)))) y2) (
      Wm.ret (.inr (Sum.inl (s1.1, decide (s1.1 < x1), s1.2))))) (0, s0)) fun e1 =>
    Sum.elim (fun e1 =>
      Wm.ret (.inl e1.2.2 : σ ⊕ ε)) (fun e1 =>
    Wm.ret (.inr e1.2.2.2.2.2.2 : σ ⊕ ε)) e1
def Lk_trie_Trie_path_fn1 {σ ε : Type} (hp : Pool Cell) (x1 : Int) (x2 : T_api_Value) (x3 : Ref) (step : Int → σ → Option (σ ⊕ ε)) (s0 : σ) : Option (σ ⊕ ε) :=
  (loopM (σ := Int × (σ)) (ε := (Int × Bool × (σ)) ⊕ (Int × Int × Int × Bool × Bool × Bool × (ε))) FUEL (fun s1 =>
    cond (decide (s1.1 < x1)) (
      (x3).bind fun o1 =>
      (rd337 hp o1).bind fun c1 =>
      (L_value_Bit x2 (w64 ((w64 (c1.f_bits - 1)) - s1.1))).bind fun y1 =>
      (cond y1 (
        some 1) (
        some 0)).bind fun m1 =>
      (step m1 s1.2).bind fun y2 =>
      Sum.elim (fun s2 =>
        some (.inl (w64 (s1.1 + 1), s2))) (fun q2 =>
        some (.inr (Sum.inr (s1.1, m1, s1.1, decide (s1.1 < x1), y1, !false, q2)))) y2) (
      some (.inr (Sum.inl (s1.1, decide (s1.1 < x1), s1.2))))) (0, s0)).bind fun e1 =>
    Sum.elim (fun e1 =>
      some (.inl e1.2.2)) (fun e1 =>
    some (.inr e1.2.2.2.2.2.2)) e1
def L_trie_Trie_find (hp : Pool Cell) (x0 : Ref) (x1 : T_api_Value) (x2 : Int) : Option Ref :=
  (L_trie_Trie_prefix hp x0 x1 x2).bind fun y1 =>
  cond (!y1) (
    some (none : Ref)) (
    (x0).bind fun o1 =>
    (rd337 hp o1).bind fun c1 =>
    (L_trie_Trie_path x0 x1 x2).bind fun y2 =>
    (Lk_trie_Trie_path_fn1 hp y2.1 y2.2.1 y2.2.2 (σ := Ref) (ε := Ref × Ref) (fun (vx1 : Int) (s1 : Ref) =>
      cond s1.isNone (
        some (.inr (s1, (none : Ref)))) (
        (s1).bind fun o2 =>
        (idx 2 vx1).bind fun k1 =>
        (rd335 hp o2).bind fun c2 =>
        some (.inl (vget c2.f_children k1)))) c1.f_root).bind fun e1 =>
    Sum.elim (fun s1 =>
      some s1) (fun q1 =>
      some q1.2) e1)
def L_trie_Trie_Get (hp : Pool Cell) (x0 : Ref) (x1 : T_api_Value) (x2 : Int) : Option (Int × Bool) :=
  (L_trie_Trie_find hp x0 x1 x2).bind fun y1 =>
  (condM y1.isNone false (y1)).bind fun o1 =>
  (condM y1.isNone false (rd335 hp o1)).bind fun c1 =>
  cond (y1.isNone || (!c1.f_used)) (
    some (0, false)) (
    (y1).bind fun o2 =>
    (rd335 hp o2).bind fun c2 =>
    some (c2.f_id, true))
def L_index_prefixed_find (hp : Pool Cell) (x0 : T_index_prefixed) (x1 : T_api_Entry) : Option (Int × Bool) :=
  (L_index_prefixed_prefix x0 x1).bind fun y1 =>
  (x0.f_tries.p).bind fun o1 =>
  (rd167 hp o1).bind fun c1 =>
  (some ((mget c1 y1.1).getD default)).bind fun z1 =>
  (L_trie_Trie_Get hp z1 y1.2.1 y1.2.2).bind fun y2 =>
  some (y2.1, y2.2)
def L_slices_Clone_api_Match (x0 : List T_api_Match) : Option (List T_api_Match) :=
  (appM 64 ([] : List T_api_Match) x0).bind fun y1 =>
  some y1
def L_slices_Clone_api_Value (x0 : List T_api_Value) : Option (List T_api_Value) :=
  (appM 16 ([] : List T_api_Value) x0).bind fun y1 =>
  some y1
def L_own_Entry (x0 : T_api_Entry) : Option T_api_Entry :=
  (L_slices_Clone_api_Match x0.f_Matches).bind fun y1 =>
  (L_slices_Clone_api_Value x0.f_Args).bind fun y2 =>
  (some (({ ({ x0 with f_Matches := y1 } : T_api_Entry) with f_Args := y2 } : T_api_Entry))).bind fun z1 =>
  some z1
def L_own_Installed (x0 : T_api_Installed) : Option T_api_Installed :=
  (L_own_Entry x0.f_Entry).bind fun y1 =>
  some ({ x0 with f_Entry := y1 } : T_api_Installed)
def Ll0_own_List (x0 : List T_api_Installed) : Option (List T_api_Installed) :=
  (loopM (σ := Int × (List T_api_Installed)) (ε := (Int × Bool × (List T_api_Installed))) FUEL (fun s1 =>
    cond (decide (s1.1 < (x0.length : Int))) (
      (idx x0.length s1.1).bind fun k1 =>
      (L_own_Installed (lget x0 k1)).bind fun y1 =>
      (appM 88 s1.2 [y1]).bind fun y2 =>
      some (.inl (w64 (s1.1 + 1), y2))) (
      some (.inr (s1.1, decide (s1.1 < (x0.length : Int)), s1.2)))) (0, ([] : List T_api_Installed))).bind fun e1 =>
  some e1.2.2
def Lh0_1_ordered_List_All (x0 : T_ordered_List) : Option (List T_api_Installed) :=
  (Ll0_own_List x0.f_l).bind fun y1 =>
  some y1
def L_slices_Equal_api_Match (x0 : List T_api_Match) (x1 : List T_api_Match) : Option Bool :=
  cond ((x0.length : Int) != (x1.length : Int)) (
    some false) (
    (loopM (σ := Int) (ε := (Int × Bool) ⊕ (Int × Int × Bool × Bool)) FUEL (fun s1 =>
      cond (decide (s1 < (x0.length : Int))) (
        (idx x0.length s1).bind fun k1 =>
        (idx x1.length s1).bind fun k2 =>
        cond (!decide (lget x0 k1 = lget x1 k2)) (
          some (.inr (Sum.inr (s1, s1, decide (s1 < (x0.length : Int)), !decide (lget x0 k1 = lget x1 k2))))) (
          some (.inl (w64 (s1 + 1))))) (
        some (.inr (Sum.inl (s1, decide (s1 < (x0.length : Int))))))) 0).bind fun e1 =>
      Sum.elim (fun e1 =>
        some true) (fun e1 =>
      some false) e1)
def L_entry_SameKey (x0 : T_api_Entry) (x1 : T_api_Entry) : Option Bool :=
  (condM (x0.f_Table == x1.f_Table) true (L_slices_Equal_api_Match x0.f_Matches x1.f_Matches)).bind fun y1 =>
  some (((x0.f_Table == x1.f_Table) && y1) && (x0.f_Priority == x1.f_Priority))
def L_index_sorted_find (hp : Pool Cell) (x0 : T_index_sorted) (x1 : T_api_Entry) : Option (Int × Bool) :=
  (x0.f_l).bind fun o1 =>
  (rd228 hp o1).bind fun c1 =>
  (Lh0_1_ordered_List_All c1.1).bind fun y1 =>
  (loopM (σ := Int) (ε := (Int × Bool) ⊕ (Int × Bool × Int × Bool × Bool)) FUEL (fun s1 =>
    cond (decide (s1 < (y1.length : Int))) (
      (idx y1.length s1).bind fun k1 =>
      (L_entry_SameKey ((lget y1 k1).f_Entry) x1).bind fun y2 =>
      cond y2 (
        some (.inr (Sum.inr ((lget y1 k1).f_Number, true, s1, decide (s1 < (y1.length : Int)), y2)))) (
        some (.inl (w64 (s1 + 1))))) (
      some (.inr (Sum.inl (s1, decide (s1 < (y1.length : Int))))))) 0).bind fun e1 =>
    Sum.elim (fun e1 =>
      some (0, false)) (fun e1 =>
    some (e1.1, e1.2.1)) e1
def LI_index_finder_find (hp : Pool Cell) (y : T_index_finder) (x0 : T_api_Entry) : Option (Int × Bool) := match y with
  | .nil => none
  | .c166 z => L_index_hashed_find hp z x0
  | .c169 z => L_index_prefixed_find hp z x0
  | .c173 z => L_index_sorted_find hp z x0
def L_index_Index_entry (hp : Pool Cell) (x0 : Ref) (x1 : Int) (x2 : Bool) : Option (T_api_Installed × Bool) :=
  cond (!x2) (
    some ((default : T_api_Installed), false)) (
    (x0).bind fun o1 =>
    (rd135 hp o1).bind fun c1 =>
    (c1.f_entries.p).bind fun o2 =>
    (rd133 hp o2).bind fun c2 =>
    (some ((mget c2 x1).getD default)).bind fun z1 =>
    (L_own_Installed z1).bind fun y1 =>
    some (y1, true))
def L_index_Index_Find (hp : Pool Cell) (x0 : Ref) (x1 : T_api_Entry) : Option (T_api_Installed × Bool) :=
  cond x0.isNone (
    some ((default : T_api_Installed), false)) (
    (x0).bind fun o1 =>
    (rd135 hp o1).bind fun c1 =>
    (LI_index_finder_find hp c1.f_finder x1).bind fun y1 =>
    (L_index_Index_entry hp x0 y1.1 y1.2).bind fun y2 =>
    some (y2.1, y2.2))
def L_exact_Index_Remove (hp : Pool Cell) (x0 : Ref) (x1 : Vector T_api_Value 4) : Option (Bool × (Pool Cell)) :=
  (L_exact_Index_Get hp x0 x1).bind fun y1 =>
  cond (!y1.2) (
    some (false, hp)) (
    (x0).bind fun o1 =>
    (rd224 hp o1).bind fun c1 =>
    (c1.f_ids.p).bind fun o2 =>
    (rd222 hp o2).bind fun c2 =>
    (some (pup hp o2 (Cell.c222 (mdel c2 x1)))).bind fun hp1 =>
    some (true, hp1))
def L_index_hashed_remove (hp : Pool Cell) (x0 : T_index_hashed) (x1 : T_api_Installed) : Option (Pool Cell) :=
  (L_index_point x1.f_Entry).bind fun y1 =>
  (L_exact_Index_Remove hp x0.f_x y1).bind fun y2 =>
  some y2.2
def L_trie_node_empty (hp : Pool Cell) (x0 : Ref) : Option Bool :=
  (x0).bind fun o1 =>
  (rd335 hp o1).bind fun c1 =>
  (condM (!c1.f_used) true (x0)).bind fun o2 =>
  (condM (!c1.f_used) true (rd335 hp o2)).bind fun c2 =>
  some ((!c1.f_used) && (decide (c2.f_children = (default : Vector Ref 2))))
def L_trie_Trie_Remove (hp : Pool Cell) (x0 : Ref) (x1 : T_api_Value) (x2 : Int) : Option (Bool × (Pool Cell)) :=
  (L_trie_Trie_Get hp x0 x1 x2).bind fun y1 =>
  cond (!y1.2) (
    some (false, hp)) (
    (x0).bind fun o1 =>
    (rd337 hp o1).bind fun c1 =>
    (L_trie_Trie_path x0 x1 x2).bind fun y2 =>
    (Lk_trie_Trie_path_fn1 hp y2.1 y2.2.1 y2.2.2 (σ := (List Int) × (List Ref)) (ε := Empty) (fun (vx1 : Int) (s1 : (List Int) × (List Ref)) =>
      (idx s1.2.length (w64 ((s1.2.length : Int) - 1))).bind fun k1 =>
      ((lget s1.2 k1)).bind fun o2 =>
      (idx 2 vx1).bind fun k2 =>
      (rd335 hp o2).bind fun c2 =>
      (appM 8 s1.2 [vget c2.f_children k2]).bind fun y3 =>
      (appM 8 s1.1 [vx1]).bind fun y4 =>
      some (.inl (y4, y3))) (([] : List Int), [c1.f_root])).bind fun e1 =>
    Sum.elim (fun s1 =>
      (idx s1.2.length x2).bind fun k3 =>
      ((lget s1.2 k3)).bind fun o3 =>
      (rd335 hp o3).bind fun c3 =>
      (some (pup hp o3 (Cell.c335 ({ c3 with f_used := false } : T_trie_node)))).bind fun hp1 =>
      (rd335 hp1 o3).bind fun c4 =>
      (some (pup hp1 o3 (Cell.c335 ({ c4 with f_id := 0 } : T_trie_node)))).bind fun hp2 =>
      (loopM (σ := Int × (Pool Cell)) (ε := (Int × Bool × (Pool Cell))) FUEL (fun s2 =>
        (condM (decide (s2.1 ≥ 0)) true (idx s1.2.length (w64 (s2.1 + 1)))).bind fun k4 =>
        (condM (decide (s2.1 ≥ 0)) true (L_trie_node_empty s2.2 (lget s1.2 k4))).bind fun y5 =>
        cond ((decide (s2.1 ≥ 0)) && y5) (
          (idx s1.2.length s2.1).bind fun k8 =>
          (idx s1.1.length s2.1).bind fun k9 =>
          ((lget s1.2 k8)).bind fun o5 =>
          (idx 2 (lget s1.1 k9)).bind fun k10 =>
          (rd335 s2.2 o5).bind fun c5 =>
          (some (pup s2.2 o5 (Cell.c335 ({ c5 with f_children := vset c5.f_children k10 (none : Ref) } : T_trie_node)))).bind fun hp3 =>
          some (.inl (w64 (s2.1 - 1), hp3))) (
          some (.inr (s2.1, (decide (s2.1 ≥ 0)) && y5, s2.2)))) (w64 (x2 - 1), hp2)).bind fun e2 =>
      (rd337 e2.2.2 o1).bind fun c6 =>
      (L_trie_node_empty e2.2.2 c6.f_root).bind fun y6 =>
      (cond y6 (
        (some (pup e2.2.2 o1 (Cell.c337 ({ c6 with f_root := (none : Ref) } : T_trie_Trie)))).bind fun hp4 =>
        some hp4) (
        some e2.2.2)).bind fun m1 =>
      some (true, m1)) (fun q1 =>
      Empty.elim q1) e1)
def Lh3__trie_Trie_All_fn1 (hp : Pool Cell) (x0 : Ref) (x1 : T_api_Value) (x2 : Int) (x3 : List T_trie_Prefix) : Option (List T_trie_Prefix) :=
  (x0).bind fun o1 =>
  (rd335 hp o1).bind fun c1 =>
  (cond c1.f_used (
    (appM 32 x3 [{ f_Value := x1, f_Length := x2, f_ID := c1.f_id : T_trie_Prefix }]).bind fun y1 =>
    some y1) (
    some x3)).bind fun m1 =>
  some m1
def L_value_Of (x0 : BitVec 64) : Option T_api_Value :=
  some ({ (default : T_api_Value) with f_Lo := x0 } : T_api_Value)
def L_value_Left (x0 : T_api_Value) (x1 : Int) : Option T_api_Value :=
  cond (decide (x1 ≤ 0)) (
    some x0) (
    cond (decide (x1 ≥ 64)) (
      (some (({ (default : T_api_Value) with f_Hi := x0.f_Lo <<< (BitVec.ofInt 64 (w64 (x1 - 64))).toNat } : T_api_Value))).bind fun z1 =>
      some z1) (
      (some ((x0.f_Hi <<< (BitVec.ofInt 64 x1).toNat) ||| (x0.f_Lo >>> (BitVec.ofInt 64 (w64 (64 - x1))).toNat))).bind fun z2 =>
      (some ({ f_Hi := z2, f_Lo := x0.f_Lo <<< (BitVec.ofInt 64 x1).toNat : T_api_Value })).bind fun z3 =>
      some z3))
def L_value_Or (x0 : T_api_Value) (x1 : T_api_Value) : Option T_api_Value :=
  (some ({ f_Hi := x0.f_Hi ||| x1.f_Hi, f_Lo := x0.f_Lo ||| x1.f_Lo : T_api_Value })).bind fun z1 =>
  some z1
def Lrc4_257h5__trie_Trie_walk : Nat → (Pool Cell) → Ref → Ref → T_api_Value → Int → (List T_trie_Prefix) → Option (List T_trie_Prefix)
  | 0 => fun _ _ _ _ _ _ => none
  | n + 1 => fun hp x0 x1 x2 x3 x5 =>
    cond x1.isNone (
      some x5) (
      (Lh3__trie_Trie_All_fn1 hp x1 x2 x3 x5).bind fun y1 =>
      (x1).bind fun o1 =>
      (rd335 hp o1).bind fun c1 =>
      (Lrc4_257h5__trie_Trie_walk n hp x0 (vget c1.f_children 0) x2 (w64 (x3 + 1)) y1).bind fun y2 =>
      (L_value_Of (1#64)).bind fun y3 =>
      (x0).bind fun o2 =>
      (rd337 hp o2).bind fun c2 =>
      (L_value_Left y3 (w64 ((w64 (c2.f_bits - 1)) - x3))).bind fun y4 =>
      (L_value_Or x2 y4).bind fun y5 =>
      (Lrc4_257h5__trie_Trie_walk n hp x0 (vget c1.f_children 1) y5 (w64 (x3 + 1)) y2).bind fun y6 =>
      some y6)
def Lc4_257h5__trie_Trie_walk (hp : Pool Cell) (x0 : Ref) (x1 : Ref) (x2 : T_api_Value) (x3 : Int) (x5 : List T_trie_Prefix) : Option (List T_trie_Prefix) := Lrc4_257h5__trie_Trie_walk FUEL hp x0 x1 x2 x3 x5
def Lc1_257h2__trie_Trie_nodes (hp : Pool Cell) (x0 : Ref) (x2 : List T_trie_Prefix) : Option (List T_trie_Prefix) :=
  (cond x0.isSome (
    (x0).bind fun o1 =>
    (rd337 hp o1).bind fun c1 =>
    (Lc4_257h5__trie_Trie_walk hp x0 c1.f_root (default : T_api_Value) 0 x2).bind fun y1 =>
    some y1) (
    some x2)).bind fun m1 =>
  some m1
def L_trie_Trie_All (hp : Pool Cell) (x0 : Ref) : Option (List T_trie_Prefix) :=
  (Lc1_257h2__trie_Trie_nodes hp x0 ([] : List T_trie_Prefix)).bind fun y1 =>
  some y1
def L_trie_Trie_Len (hp : Pool Cell) (x0 : Ref) : Option Int :=
  (L_trie_Trie_All hp x0).bind fun y1 =>
  some (y1.length : Int)
def L_index_prefixed_remove (hp : Pool Cell) (x0 : T_index_prefixed) (x1 : T_api_Installed) : Option (Pool Cell) :=
  (L_index_prefixed_prefix x0 x1.f_Entry).bind fun y1 =>
  (x0.f_tries.p).bind fun o1 =>
  (rd167 hp o1).bind fun c1 =>
  (some ((mget c1 y1.1).getD default)).bind fun z1 =>
  (L_trie_Trie_Remove hp z1 y1.2.1 y1.2.2).bind fun y2 =>
  (rd167 y2.2 o1).bind fun c2 =>
  (some ((mget c2 y1.1).getD default)).bind fun z2 =>
  (L_trie_Trie_Len y2.2 z2).bind fun y3 =>
  (cond (y3 == 0) (
    (some (pup y2.2 o1 (Cell.c167 (mdel c2 y1.1)))).bind fun hp1 =>
    some hp1) (
    some y2.2)).bind fun m1 =>
  some m1
def L_ordered_List_find_fn1 (x0 : T_api_Installed) (x1 : Int) : Option Bool :=
  some (x0.f_Number == x1)
def L_slices_IndexFunc_api_Installed (x0 : List T_api_Installed) (x1 : T_api_Installed → Option Bool) : Option Int :=
  (loopM (σ := Int) (ε := (Int × Bool) ⊕ (Int × Int × Int × Bool × Bool)) FUEL (fun s1 =>
    cond (decide (s1 < (x0.length : Int))) (
      (idx x0.length s1).bind fun k1 =>
      (x1 (lget x0 k1)).bind fun y1 =>
      cond y1 (
        some (.inr (Sum.inr (s1, s1, s1, decide (s1 < (x0.length : Int)), y1)))) (
        some (.inl (w64 (s1 + 1))))) (
      some (.inr (Sum.inl (s1, decide (s1 < (x0.length : Int))))))) 0).bind fun e1 =>
    Sum.elim (fun e1 =>
      some (-1)) (fun e1 =>
    some e1.1) e1
def Lh0_1_ordered_List_find (x0 : T_ordered_List) (x1 : Int) : Option Int :=
  (L_slices_IndexFunc_api_Installed x0.f_l (fun a0 => L_ordered_List_find_fn1 a0 x1)).bind fun y1 =>
  some y1
def Lp0_slices_Delete_api_Installed (x0 : List T_api_Installed) (x1 : Int) (x2 : Int) : Option (List T_api_Installed) := delM x0 x1 x2
def Lh0_1_ordered_List_Remove (x0 : T_ordered_List) (x1 : Int) : Option (Bool × T_ordered_List) :=
  (Lh0_1_ordered_List_find x0 x1).bind fun y1 =>
  cond (decide (y1 < 0)) (
    some (false, x0)) (
    (Lp0_slices_Delete_api_Installed x0.f_l y1 (w64 (y1 + 1))).bind fun y2 =>
    some (true, ({ x0 with f_l := y2 } : T_ordered_List)))
def L_index_sorted_remove (hp : Pool Cell) (x0 : T_index_sorted) (x1 : T_api_Installed) : Wm (Pool Cell) :=
  Wm.bind (Wm.of (x0.f_l)) fun o1 =>
  Wm.bind (Wm.of (rd228 hp o1)) fun c1 =>
  Wm.bind (Wm.of (Lh0_1_ordered_List_Remove c1.1 x1.f_Number)) fun y1 =>
  Wm.bind (Wm.any (Option Nat × Nat)) fun q1 =>
  Wm.bind (Wm.of (some (pup hp o1 (Cell.c228 y1.2 q1.1 q1.2)))) fun hp1 =>
  Wm.ret hp1
def LI_index_finder_remove (hp : Pool Cell) (y : T_index_finder) (x0 : T_api_Installed) : Wm (Pool Cell) := match y with
  | .nil => fun _ => False
  | .c166 z => Wm.of (L_index_hashed_remove hp z x0)
  | .c169 z => Wm.of (L_index_prefixed_remove hp z x0)
  | .c173 z => L_index_sorted_remove hp z x0
def L_index_Index_Remove (hp : Pool Cell) (x0 : Ref) (x1 : T_api_Entry) : Wm (T_api_Installed × Bool × (Pool Cell)) :=
  Wm.bind (Wm.of (L_index_Index_Find hp x0 x1)) fun y1 =>
  Wm.bind (cond y1.2 (
    Wm.bind (Wm.of (x0)) fun o1 =>
    Wm.bind (Wm.of (rd135 hp o1)) fun c1 =>
    Wm.bind (LI_index_finder_remove hp c1.f_finder y1.1) fun y2 =>
    Wm.bind (Wm.of (rd135 y2 o1)) fun c2 =>
    Wm.bind (Wm.of (c2.f_entries.p)) fun o2 =>
    Wm.bind (Wm.of (rd133 y2 o2)) fun c3 =>
    Wm.bind (Wm.of (some (pup y2 o2 (Cell.c133 (mdel c3 y1.1.f_Number))))) fun hp1 =>
    Wm.ret hp1) (
    Wm.ret hp)) fun m1 =>
  Wm.ret (y1.1, y1.2, m1)
def L_index_hashed_lookup (hp : Pool Cell) (x0 : T_index_hashed) (x1 : Vector T_api_Value 4) : Option (Int × Bool) :=
  (L_exact_Index_Get hp x0.f_x x1).bind fun y1 =>
  some (y1.1, y1.2)
def L_math_bits_Len64 (x0 : BitVec 64) : Option Int :=
  (cond (decide (x0 ≥ (4294967296#64))) (
    some (x0 >>> (32#64).toNat, 32)) (
    some (x0, 0))).bind fun m1 =>
  (cond (decide (m1.1 ≥ (65536#64))) (
    some (m1.1 >>> (16#64).toNat, w64 (m1.2 + 16))) (
    some (m1.1, m1.2))).bind fun m2 =>
  (cond (decide (m2.1 ≥ (256#64))) (
    some (m2.1 >>> (8#64).toNat, w64 (m2.2 + 8))) (
    some (m2.1, m2.2))).bind fun m3 =>
  (strM (ByteArray.mk (List.toArray (List.append (List.append [0, 1, 2, 2, 3, 3, 3, 3, 4, 4, 4, 4, 4, 4, 4, 4, 5, 5, 5, 5, 5, 5, 5, 5, 5, 5, 5, 5, 5, 5, 5, 5, 6, 6, 6, 6, 6, 6, 6, 6, 6, 6, 6, 6, 6, 6, 6, 6, 6, 6, 6, 6, 6, 6, 6, 6, 6, 6, 6, 6, 6, 6, 6, 6] [7, 7, 7, 7, 7, 7, 7, 7, 7, 7, 7, 7, 7, 7, 7, 7, 7, 7, 7, 7, 7, 7, 7, 7, 7, 7, 7, 7, 7, 7, 7, 7, 7, 7, 7, 7, 7, 7, 7, 7, 7, 7, 7, 7, 7, 7, 7, 7, 7, 7, 7, 7, 7, 7, 7, 7, 7, 7, 7, 7, 7, 7, 7, 7]) (List.append [8, 8, 8, 8, 8, 8, 8, 8, 8, 8, 8, 8, 8, 8, 8, 8, 8, 8, 8, 8, 8, 8, 8, 8, 8, 8, 8, 8, 8, 8, 8, 8, 8, 8, 8, 8, 8, 8, 8, 8, 8, 8, 8, 8, 8, 8, 8, 8, 8, 8, 8, 8, 8, 8, 8, 8, 8, 8, 8, 8, 8, 8, 8, 8] [8, 8, 8, 8, 8, 8, 8, 8, 8, 8, 8, 8, 8, 8, 8, 8, 8, 8, 8, 8, 8, 8, 8, 8, 8, 8, 8, 8, 8, 8, 8, 8, 8, 8, 8, 8, 8, 8, 8, 8, 8, 8, 8, 8, 8, 8, 8, 8, 8, 8, 8, 8, 8, 8, 8, 8, 8, 8, 8, 8, 8, 8, 8, 8])))) ((m3.1.setWidth 8).toNat : Int)).bind fun y1 =>
  some (w64 (m3.2 + (y1.toNat : Int)))
def L_value_Len (x0 : T_api_Value) : Option Int :=
  cond (x0.f_Hi != (0#64)) (
    (L_math_bits_Len64 x0.f_Hi).bind fun y1 =>
    some (w64 (64 + y1))) (
    (L_math_bits_Len64 x0.f_Lo).bind fun y2 =>
    some y2)
def L_value_Fits (x0 : T_api_Value) (x1 : Int) : Option Bool :=
  (L_value_Len x0).bind fun y1 =>
  some (decide (y1 ≤ x1))
def L_trie_Trie_Longest_fn1 (hp : Pool Cell) (x0 : Ref) (x1 : Int) (x2 : Int) (x3 : Int) (x4 : Bool) : Option (Int × Int × Bool) :=
  (condM x0.isSome true (x0)).bind fun o1 =>
  (condM x0.isSome true (rd335 hp o1)).bind fun c1 =>
  (cond (x0.isSome && c1.f_used) (
    (x0).bind fun o2 =>
    (rd335 hp o2).bind fun c2 =>
    some (x1, c2.f_id, true)) (
    some (x2, x3, x4))).bind fun m1 =>
  some (m1.1, m1.2.1, m1.2.2)
def L_trie_Trie_Longest (hp : Pool Cell) (x0 : Ref) (x1 : T_api_Value) : Option (Int × Int × Bool) :=
  (condM x0.isNone false (x0)).bind fun o1 =>
  (condM x0.isNone false (rd337 hp o1)).bind fun c1 =>
  (condM x0.isNone false (L_value_Fits x1 c1.f_bits)).bind fun y1 =>
  cond (x0.isNone || (!y1)) (
    some (0, 0, false)) (
    (x0).bind fun o2 =>
    (rd337 hp o2).bind fun c2 =>
    (L_trie_Trie_Longest_fn1 hp c2.f_root 0 0 0 false).bind fun y2 =>
    (L_trie_Trie_path x0 x1 c2.f_bits).bind fun y3 =>
    (Lk_trie_Trie_path_fn1 hp y3.1 y3.2.1 y3.2.2 (σ := Ref × Int × Int × Int × Bool) (ε := Ref × Int × Int × Int × Bool) (fun (vx1 : Int) (s1 : Ref × Int × Int × Int × Bool) =>
      cond s1.1.isNone (
        some (.inr (s1.1, s1.2.1, s1.2.2.1, s1.2.2.2.1, s1.2.2.2.2))) (
        (s1.1).bind fun o3 =>
        (idx 2 vx1).bind fun k1 =>
        (rd335 hp o3).bind fun c3 =>
        (L_trie_Trie_Longest_fn1 hp (vget c3.f_children k1) (w64 (s1.2.1 + 1)) s1.2.2.1 s1.2.2.2.1 s1.2.2.2.2).bind fun y4 =>
        some (.inl (vget c3.f_children k1, w64 (s1.2.1 + 1), y4.1, y4.2.1, y4.2.2)))) (c2.f_root, 0, y2.1, y2.2.1, y2.2.2)).bind fun e1 =>
    Sum.elim (fun s1 =>
      some (s1.2.2.1, s1.2.2.2.1, s1.2.2.2.2)) (fun q2 =>
      some (q2.2.2.1, q2.2.2.2.1, q2.2.2.2.2)) e1)
def L_index_prefixed_lookup (hp : Pool Cell) (x0 : T_index_prefixed) (x1 : Vector T_api_Value 4) : Option (Int × Bool) :=
  (L_index_prefixed_split x0 x1).bind fun y1 =>
  (x0.f_tries.p).bind fun o1 =>
  (rd167 hp o1).bind fun c1 =>
  (some ((mget c1 y1.1).getD default)).bind fun z1 =>
  (L_value_Ones x0.f_bits).bind fun y2 =>
  (L_value_And y1.2 y2).bind fun y3 =>
  (L_trie_Trie_Longest hp z1 y3).bind fun y4 =>
  some (y4.2.1, y4.2.2)
def L_ordered_List_matching (x1 : Vector T_api_Value 4) : Option (Vector T_api_Value 4) :=
  some x1
def L_entry_table (x0 : T_api_Schema) (x1 : T_api_Entry) : Option (T_api_Table × Bool) :=
  (L_check_TableOf x0 x1.f_Table).bind fun y1 =>
  cond (decide (y1 < 0)) (
    some ((default : T_api_Table), false)) (
    (idx x0.f_Tables.length y1).bind fun k1 =>
    some (lget x0.f_Tables k1, true))
def L_entry_bitsOf (x0 : T_api_Schema) (x1 : T_api_Key) : Option Int :=
  (L_check_FieldOf x0 x1.f_Field).bind fun y1 =>
  cond (decide (y1 < 0)) (
    some 0) (
    (idx x0.f_Fields.length y1).bind fun k1 =>
    some ((lget x0.f_Fields k1).f_Bits))
def L_value_Compare (x0 : T_api_Value) (x1 : T_api_Value) : Option Int :=
  cond (decide (x0 = x1)) (
    some 0) (
    (some ((decide (x0.f_Hi < x1.f_Hi)) || ((x0.f_Hi == x1.f_Hi) && (decide (x0.f_Lo < x1.f_Lo))))).bind fun z1 =>
    cond z1 (
      some (-1)) (
      some 1))
def L_entry_Covers (x0 : T_api_Match) (x1 : Int) (x2 : Int) (x3 : T_api_Value) : Option Bool :=
  cond (!x0.f_Present) (
    some ((decide (x1 ≥ 1)) && (decide (x1 ≤ 4)))) (
    cond (x1 == 1) (
      some (decide (x3 = x0.f_Value))) (
      cond (x1 == 2) (
        (L_value_Leading x2 x0.f_Prefix).bind fun y1 =>
        (L_value_And x3 y1).bind fun y2 =>
        (L_value_And x0.f_Value y1).bind fun y3 =>
        some (decide (y2 = y3))) (
        cond (x1 == 3) (
          (L_value_And x3 x0.f_Mask).bind fun y4 =>
          some (decide (y4 = x0.f_Value))) (
          cond (x1 == 4) (
            (L_value_Compare x0.f_Value x3).bind fun y5 =>
            (condM (decide (y5 ≤ 0)) true (L_value_Compare x3 x0.f_High)).bind fun y6 =>
            some ((decide (y5 ≤ 0)) && (decide (y6 ≤ 0)))) (
            some false)))))
def L_entry_Matches (x0 : T_api_Schema) (x1 : T_api_Entry) (x2 : Vector T_api_Value 4) : Option Bool :=
  (L_entry_table x0 x1).bind fun y1 =>
  cond (!y1.2) (
    some false) (
    (loopM (σ := Int) (ε := (Int × Bool) ⊕ (Int × Int × Bool × Bool)) FUEL (fun s1 =>
      cond (decide (s1 < (y1.1.f_Keys.length : Int))) (
        (idx y1.1.f_Keys.length s1).bind fun k1 =>
        (condM ((decide (s1 ≥ (x1.f_Matches.length : Int))) || (decide (s1 ≥ 4))) false (idx x1.f_Matches.length s1)).bind fun k2 =>
        (condM ((decide (s1 ≥ (x1.f_Matches.length : Int))) || (decide (s1 ≥ 4))) false (L_entry_bitsOf x0 (lget y1.1.f_Keys k1))).bind fun y2 =>
        (condM ((decide (s1 ≥ (x1.f_Matches.length : Int))) || (decide (s1 ≥ 4))) false (idx 4 s1)).bind fun k3 =>
        (condM ((decide (s1 ≥ (x1.f_Matches.length : Int))) || (decide (s1 ≥ 4))) false (L_entry_Covers (lget x1.f_Matches k2) ((lget y1.1.f_Keys k1).f_Kind) y2 (vget x2 k3))).bind fun y3 =>
        (some (((decide (s1 ≥ (x1.f_Matches.length : Int))) || (decide (s1 ≥ 4))) || (!y3))).bind fun z1 =>
        cond z1 (
          some (.inr (Sum.inr (s1, s1, decide (s1 < (y1.1.f_Keys.length : Int)), z1)))) (
          some (.inl (w64 (s1 + 1))))) (
        some (.inr (Sum.inl (s1, decide (s1 < (y1.1.f_Keys.length : Int))))))) 0).bind fun e1 =>
      Sum.elim (fun e1 =>
        some true) (fun e1 =>
      some false) e1)
def Lh1_1_ordered_List_matching_fn1 {σ ε : Type} (x1 : T_ordered_List) (x2 : Vector T_api_Value 4) (step : T_api_Installed → σ → Option (σ ⊕ ε)) (s0 : σ) : Option (σ ⊕ ε) :=
  (loopM (σ := Int × (σ)) (ε := (Int × Bool × (σ)) ⊕ (Int × Bool × Bool × (ε))) FUEL (fun s1 =>
    cond (decide (s1.1 < (x1.f_l.length : Int))) (
      (idx x1.f_l.length s1.1).bind fun k1 =>
      (L_entry_Matches x1.f_schema ((lget x1.f_l k1).f_Entry) x2).bind fun y1 =>
      cond y1 (
        (step (lget x1.f_l k1) s1.2).bind fun y2 =>
        Sum.elim (fun s2 =>
          some (.inl (w64 (s1.1 + 1), s2))) (fun q2 =>
          some (.inr (Sum.inr (s1.1, decide (s1.1 < (x1.f_l.length : Int)), y1 && (!false), q2)))) y2) (
        some (.inl (w64 (s1.1 + 1), s1.2)))) (
      some (.inr (Sum.inl (s1.1, decide (s1.1 < (x1.f_l.length : Int)), s1.2))))) (0, s0)).bind fun e1 =>
    Sum.elim (fun e1 =>
      some (.inl e1.2.2)) (fun e1 =>
    some (.inr e1.2.2.2)) e1
def Lh0_1_ordered_List_Lookup (x0 : T_ordered_List) (x1 : Vector T_api_Value 4) : Option (T_api_Installed × Bool) :=
  (L_ordered_List_matching x1).bind fun y1 =>
  (Lh1_1_ordered_List_matching_fn1 x0 y1 (σ := Unit) (ε := Bool × T_api_Installed) (fun (vx1 : T_api_Installed) (s1 : Unit) =>
    (L_own_Installed vx1).bind fun y2 =>
    some (.inr (true, y2))) ()).bind fun e1 =>
  Sum.elim (fun s1 =>
    some ((default : T_api_Installed), false)) (fun q1 =>
    some (q1.2, q1.1)) e1
def L_index_sorted_lookup (hp : Pool Cell) (x0 : T_index_sorted) (x1 : Vector T_api_Value 4) : Option (Int × Bool) :=
  (x0.f_l).bind fun o1 =>
  (rd228 hp o1).bind fun c1 =>
  (Lh0_1_ordered_List_Lookup c1.1 x1).bind fun y1 =>
  some (y1.1.f_Number, y1.2)
def LI_index_finder_lookup (hp : Pool Cell) (y : T_index_finder) (x0 : Vector T_api_Value 4) : Option (Int × Bool) := match y with
  | .nil => none
  | .c166 z => L_index_hashed_lookup hp z x0
  | .c169 z => L_index_prefixed_lookup hp z x0
  | .c173 z => L_index_sorted_lookup hp z x0
def L_index_Index_Lookup (hp : Pool Cell) (x0 : Ref) (x1 : Vector T_api_Value 4) : Option (T_api_Installed × Bool) :=
  cond x0.isNone (
    some ((default : T_api_Installed), false)) (
    (loopM (σ := Int × (Vector T_api_Value 4)) (ε := (Int × Bool × (Vector T_api_Value 4))) FUEL (fun s1 =>
      cond (decide (s1.1 < 4)) (
        (x0).bind fun o1 =>
        (rd135 hp o1).bind fun c1 =>
        (cond (decide (s1.1 ≥ c1.f_keys)) (
          (idx 4 s1.1).bind fun k1 =>
          some (vset s1.2 k1 (default : T_api_Value))) (
          some s1.2)).bind fun m1 =>
        some (.inl (w64 (s1.1 + 1), m1))) (
        some (.inr (s1.1, decide (s1.1 < 4), s1.2)))) (0, x1)).bind fun e1 =>
    (x0).bind fun o2 =>
    (rd135 hp o2).bind fun c2 =>
    (LI_index_finder_lookup hp c2.f_finder e1.2.2).bind fun y1 =>
    (L_index_Index_entry hp x0 y1.1 y1.2).bind fun y2 =>
    some (y2.1, y2.2))
def L_index_Index_Kind (hp : Pool Cell) (x0 : Ref) : Option Int :=
  cond x0.isNone (
    some 0) (
    (x0).bind fun o1 =>
    (rd135 hp o1).bind fun c1 =>
    some c1.f_kind)
def L_index_Index_Len (hp : Pool Cell) (x0 : Ref) : Option Int :=
  cond x0.isNone (
    some 0) (
    (x0).bind fun o1 =>
    (rd135 hp o1).bind fun c1 =>
    (c1.f_entries.p).bind fun o2 =>
    (rd133 hp o2).bind fun c2 =>
    some (c2.length : Int))
def L_exact_Index_Put (hp : Pool Cell) (x0 : Ref) (x1 : Vector T_api_Value 4) (x2 : Int) : Option (Bool × (Pool Cell)) :=
  cond x0.isNone (
    some (false, hp)) (
    (x0).bind fun o1 =>
    (rd224 hp o1).bind fun c1 =>
    (c1.f_ids.p).bind fun o2 =>
    (rd222 hp o2).bind fun c2 =>
    (some (mget c2 x1)).bind fun z1 =>
    cond z1.isSome (
      some (false, hp)) (
      (some (pup hp o2 (Cell.c222 (mput c2 x1 x2)))).bind fun hp1 =>
      some (true, hp1)))
def L_index_hashed_put (hp : Pool Cell) (x0 : T_index_hashed) (x1 : T_api_Installed) : Option (Pool Cell) :=
  (L_index_point x1.f_Entry).bind fun y1 =>
  (L_exact_Index_Put hp x0.f_x y1 x1.f_Number).bind fun y2 =>
  some y2.2
def L_trie_New (hp : Pool Cell) (x0 : Int) : Wm (Ref × (Pool Cell)) :=
  Wm.bind (Wm.of (some (({ (default : T_trie_Trie) with f_bits := min (max 1 x0) 128 } : T_trie_Trie)))) fun z1 =>
  Wm.bind (Wm.mk hp (Cell.c337 z1)) fun a1 =>
  Wm.ret ((some a1.1 : Ref), a1.2)
def L_trie_Trie_Put (hp : Pool Cell) (x0 : Ref) (x1 : T_api_Value) (x2 : Int) (x3 : Int) : Wm (Bool × (Pool Cell)) :=
  Wm.bind (Wm.of (L_trie_Trie_prefix hp x0 x1 x2)) fun y1 =>
  cond (!y1) (
    Wm.ret (false, hp)) (
    Wm.bind (Wm.of (L_trie_Trie_find hp x0 x1 x2)) fun y2 =>
    Wm.bind (Wm.of (condM y2.isSome true (y2))) fun o1 =>
    Wm.bind (Wm.of (condM y2.isSome true (rd335 hp o1))) fun c1 =>
    cond (y2.isSome && c1.f_used) (
      Wm.ret (false, hp)) (
      Wm.bind (Wm.of (x0)) fun o2 =>
      Wm.bind (Wm.of (rd337 hp o2)) fun c2 =>
      Wm.bind (cond c2.f_root.isNone (
        Wm.bind (Wm.mk hp (Cell.c335 (default : T_trie_node))) fun a2 =>
        Wm.bind (Wm.of (rd337 a2.2 o2)) fun c9 =>
        Wm.bind (Wm.of (some (pup a2.2 o2 (Cell.c337 ({ c9 with f_root := (some a2.1 : Ref) } : T_trie_Trie))))) fun hp4 =>
        Wm.ret hp4) (
        Wm.ret hp)) fun m1 =>
      Wm.bind (Wm.of (rd337 m1 o2)) fun c3 =>
      Wm.bind (Wm.of (L_trie_Trie_path x0 x1 x2)) fun y3 =>
      Wm.bind (L_trie_Trie_path_fn1 y3.1 y3.2.1 y3.2.2 (σ := Ref × (Pool Cell)) (ε := Empty) (fun (s2 : Ref × (Pool Cell)) => s2.2) (fun (vx2 : Int) (s2 : Ref × (Pool Cell)) =>
        Wm.bind (Wm.of (s2.1)) fun o3 =>
        Wm.bind (Wm.of (idx 2 vx2)) fun k1 =>
        Wm.bind (Wm.of (rd335 s2.2 o3)) fun c4 =>
        Wm.bind (cond ((vget c4.f_children k1).isNone) (
          Wm.bind (Wm.mk s2.2 (Cell.c335 (default : T_trie_node))) fun a1 =>
          Wm.bind (Wm.of (idx 2 vx2)) fun k3 =>
          Wm.bind (Wm.of (rd335 a1.2 o3)) fun c6 =>
          Wm.bind (Wm.of (some (pup a1.2 o3 (Cell.c335 ({ c6 with f_children := vset c6.f_children k3 (some a1.1 : Ref) } : T_trie_node))))) fun hp1 =>
          Wm.ret hp1) (
          Wm.ret s2.2)) fun m2 =>
        Wm.bind (Wm.of (idx 2 vx2)) fun k2 =>
        Wm.bind (Wm.of (rd335 m2 o3)) fun c5 =>
        Wm.ret (.inl (vget c5.f_children k2, m2) : (Ref × (Pool Cell)) ⊕ Empty)) (c3.f_root, m1)) fun e2 =>
      Sum.elim (fun s2 =>
        Wm.bind (Wm.of (s2.1)) fun o6 =>
        Wm.bind (Wm.of (rd335 s2.2 o6)) fun c7 =>
        Wm.bind (Wm.of (some (pup s2.2 o6 (Cell.c335 ({ c7 with f_used := true } : T_trie_node))))) fun hp2 =>
        Wm.bind (Wm.of (s2.1)) fun o7 =>
        Wm.bind (Wm.of (rd335 hp2 o7)) fun c8 =>
        Wm.bind (Wm.of (some (pup hp2 o7 (Cell.c335 ({ c8 with f_id := x3 } : T_trie_node))))) fun hp3 =>
        Wm.ret (true, hp3)) (fun q2 =>
        Empty.elim q2) e2))
def L_index_prefixed_put (hp : Pool Cell) (x0 : T_index_prefixed) (x1 : T_api_Installed) : Wm (Pool Cell) :=
  Wm.bind (Wm.of (L_index_prefixed_prefix x0 x1.f_Entry)) fun y1 =>
  Wm.bind (Wm.of (x0.f_tries.p)) fun o1 =>
  Wm.bind (Wm.of (rd167 hp o1)) fun c1 =>
  Wm.bind (Wm.of (some ((mget c1 y1.1).getD default))) fun z1 =>
  Wm.bind (cond z1.isNone (
    Wm.bind (L_trie_New hp x0.f_bits) fun y3 =>
    Wm.bind (Wm.of (rd167 y3.2 o1)) fun c3 =>
    Wm.bind (Wm.of (some (pup y3.2 o1 (Cell.c167 (mput c3 y1.1 y3.1))))) fun hp1 =>
    Wm.ret hp1) (
    Wm.ret hp)) fun m1 =>
  Wm.bind (Wm.of (rd167 m1 o1)) fun c2 =>
  Wm.bind (Wm.of (some ((mget c2 y1.1).getD default))) fun z2 =>
  Wm.bind (L_trie_Trie_Put m1 z2 y1.2.1 y1.2.2 x1.f_Number) fun y2 =>
  Wm.ret y2.2
def L_slices_BinarySearchFunc_api_Installed (x0 : List T_api_Installed) (x1 : T_api_Installed) (x2 : T_api_Installed → T_api_Installed → Option Int) : Option (Int × Bool) :=
  (loopM (σ := Int × Int) (ε := (Int × Int × Bool)) FUEL (fun s1 =>
    cond (decide (s1.1 < s1.2)) (
      (idx x0.length (w64 ((BitVec.ofInt 64 (w64 (s1.1 + s1.2))) >>> (1#64).toNat).toNat)).bind fun k1 =>
      (x2 (lget x0 k1) x1).bind fun y1 =>
      (cond (decide (y1 < 0)) (
        (some (w64 ((w64 ((BitVec.ofInt 64 (w64 (s1.1 + s1.2))) >>> (1#64).toNat).toNat) + 1))).bind fun z1 =>
        some (z1, s1.2)) (
        some (s1.1, w64 ((BitVec.ofInt 64 (w64 (s1.1 + s1.2))) >>> (1#64).toNat).toNat))).bind fun m1 =>
      some (.inl (m1.1, m1.2))) (
      some (.inr (s1.1, s1.2, decide (s1.1 < s1.2))))) (0, (x0.length : Int))).bind fun e1 =>
  (condM (decide (e1.1 < (x0.length : Int))) true (idx x0.length e1.1)).bind fun k2 =>
  (condM (decide (e1.1 < (x0.length : Int))) true (x2 (lget x0 k2) x1)).bind fun y2 =>
  some (e1.1, (decide (e1.1 < (x0.length : Int))) && (y2 == 0))
def L_cmp_isNaN_int (x0 : Int) : Option Bool :=
  some (x0 != x0)
def L_cmp_Compare_int (x0 : Int) (x1 : Int) : Option Int :=
  (L_cmp_isNaN_int x0).bind fun y1 =>
  (L_cmp_isNaN_int x1).bind fun y2 =>
  cond y1 (
    cond y2 (
      some 0) (
      some (-1))) (
    cond y2 (
      some 1) (
      cond (decide (x0 < x1)) (
        some (-1)) (
        cond (decide (x0 > x1)) (
          some 1) (
          some 0))))
def L_slices_IndexFunc_api_Key (x0 : List T_api_Key) (x1 : T_api_Key → Option Bool) : Option Int :=
  (loopM (σ := Int) (ε := (Int × Bool) ⊕ (Int × Int × Int × Bool × Bool)) FUEL (fun s1 =>
    cond (decide (s1 < (x0.length : Int))) (
      (idx x0.length s1).bind fun k1 =>
      (x1 (lget x0 k1)).bind fun y1 =>
      cond y1 (
        some (.inr (Sum.inr (s1, s1, s1, decide (s1 < (x0.length : Int)), y1)))) (
        some (.inl (w64 (s1 + 1))))) (
      some (.inr (Sum.inl (s1, decide (s1 < (x0.length : Int))))))) 0).bind fun e1 =>
    Sum.elim (fun e1 =>
      some (-1)) (fun e1 =>
    some e1.1) e1
def L_entry_Prefix_fn1 (x0 : T_api_Key) : Option Bool :=
  some (x0.f_Kind == 2)
def L_entry_Prefix (x0 : T_api_Schema) (x1 : T_api_Entry) : Option Int :=
  (L_entry_table x0 x1).bind fun y1 =>
  (L_slices_IndexFunc_api_Key y1.1.f_Keys L_entry_Prefix_fn1).bind fun y2 =>
  (some (((!y1.2) || (decide (y2 < 0))) || (decide (y2 ≥ (x1.f_Matches.length : Int))))).bind fun z1 =>
  cond z1 (
    some 0) (
    (idx x1.f_Matches.length y2).bind fun k1 =>
    some ((lget x1.f_Matches k1).f_Prefix))
def L_entry_first (x0 : List Int) : Option Int :=
  (loopM (σ := Int) (ε := (Int × Bool) ⊕ (Int × Int × Int × Bool × Bool)) FUEL (fun s1 =>
    cond (decide (s1 < (x0.length : Int))) (
      (idx x0.length s1).bind fun k1 =>
      cond ((lget x0 k1) != 0) (
        some (.inr (Sum.inr (lget x0 k1, lget x0 k1, s1, decide (s1 < (x0.length : Int)), (lget x0 k1) != 0)))) (
        some (.inl (w64 (s1 + 1))))) (
      some (.inr (Sum.inl (s1, decide (s1 < (x0.length : Int))))))) 0).bind fun e1 =>
    Sum.elim (fun e1 =>
      some 0) (fun e1 =>
    some e1.1) e1
def L_entry_Beats (x0 : T_api_Schema) (x1 : T_api_Installed) (x2 : T_api_Installed) : Option Bool :=
  (L_cmp_Compare_int x1.f_Entry.f_Priority x2.f_Entry.f_Priority).bind fun y1 =>
  (L_entry_Prefix x0 x1.f_Entry).bind fun y2 =>
  (L_entry_Prefix x0 x2.f_Entry).bind fun y3 =>
  (L_cmp_Compare_int y2 y3).bind fun y4 =>
  (L_cmp_Compare_int x1.f_Number x2.f_Number).bind fun y5 =>
  (L_entry_first [y1, y4, y5]).bind fun y6 =>
  some (decide (y6 > 0))
def Lf0_ordered_List_order (x0 : T_ordered_List) (x1 : T_api_Installed) (x2 : T_api_Installed) : Option Int :=
  (L_entry_Beats x0.f_schema x1 x2).bind fun y1 =>
  cond y1 (
    some (-1)) (
    (L_entry_Beats x0.f_schema x2 x1).bind fun y2 =>
    cond y2 (
      some 1) (
      some 0))
def Lp0_2_slices_Insert_api_Installed (x0 : List T_api_Installed) (x1 : Int) (x2 : List T_api_Installed) : Option (List T_api_Installed) := insM 88 x0 x1 x2
def Lh0_1_ordered_List_Put (x0 : T_ordered_List) (x1 : T_api_Installed) : Option (Bool × T_ordered_List) :=
  (condM false false (Lh0_1_ordered_List_find x0 x1.f_Number)).bind fun y1 =>
  cond (false || (decide (y1 ≥ 0))) (
    some (false, x0)) (
    (L_slices_BinarySearchFunc_api_Installed x0.f_l x1 (fun a0 a1 => Lf0_ordered_List_order x0 a0 a1)).bind fun y2 =>
    (L_own_Installed x1).bind fun y3 =>
    (Lp0_2_slices_Insert_api_Installed x0.f_l y2.1 [y3]).bind fun y4 =>
    some (true, ({ x0 with f_l := y4 } : T_ordered_List)))
def L_index_sorted_put (hp : Pool Cell) (x0 : T_index_sorted) (x1 : T_api_Installed) : Wm (Pool Cell) :=
  Wm.bind (Wm.of (x0.f_l)) fun o1 =>
  Wm.bind (Wm.of (rd228 hp o1)) fun c1 =>
  Wm.bind (Wm.of (Lh0_1_ordered_List_Put c1.1 x1)) fun y1 =>
  Wm.bind (Wm.any (Option Nat × Nat)) fun q1 =>
  Wm.bind (Wm.of (some (pup hp o1 (Cell.c228 y1.2 q1.1 q1.2)))) fun hp1 =>
  Wm.ret hp1
def LI_index_finder_put (hp : Pool Cell) (y : T_index_finder) (x0 : T_api_Installed) : Wm (Pool Cell) := match y with
  | .nil => fun _ => False
  | .c166 z => Wm.of (L_index_hashed_put hp z x0)
  | .c169 z => L_index_prefixed_put hp z x0
  | .c173 z => L_index_sorted_put hp z x0
def L_index_Index_Put (hp : Pool Cell) (x0 : Ref) (x1 : T_api_Installed) : Wm (Bool × (Pool Cell)) :=
  cond x0.isNone (
    Wm.ret (false, hp)) (
    Wm.bind (Wm.of (x0)) fun o1 =>
    Wm.bind (Wm.of (rd135 hp o1)) fun c1 =>
    Wm.bind (Wm.of (c1.f_entries.p)) fun o2 =>
    Wm.bind (Wm.of (rd133 hp o2)) fun c2 =>
    Wm.bind (Wm.of (some (mget c2 x1.f_Number))) fun z1 =>
    Wm.bind (Wm.of (x0)) fun o3 =>
    Wm.bind (Wm.of (rd135 hp o3)) fun c3 =>
    Wm.bind (Wm.of (LI_index_finder_find hp c3.f_finder x1.f_Entry)) fun y1 =>
    cond (y1.2 || z1.isSome) (
      Wm.ret (false, hp)) (
      Wm.bind (Wm.of (x0)) fun o4 =>
      Wm.bind (Wm.of (rd135 hp o4)) fun c4 =>
      Wm.bind (Wm.of (L_own_Installed x1)) fun y2 =>
      Wm.bind (Wm.of (c4.f_entries.p)) fun o5 =>
      Wm.bind (Wm.of (rd133 hp o5)) fun c5 =>
      Wm.bind (Wm.of (some (pup hp o5 (Cell.c133 (mput c5 x1.f_Number y2))))) fun hp1 =>
      Wm.bind (Wm.of (rd135 hp1 o4)) fun c6 =>
      Wm.bind (LI_index_finder_put hp1 c6.f_finder x1) fun y3 =>
      Wm.ret (true, y3)))
def L_law14_begun (hp : Pool Cell) : Wm (Bool × (Pool Cell)) :=
  Wm.bind (Wm.of (L_mcase_New ([] : List (BitVec 8)) 0)) fun y1 =>
  Wm.bind (Wm.of (L_mcase_Codes_Schema y1)) fun y2 =>
  Wm.bind (L_index_New hp y2.1 1) fun y3 =>
  Wm.bind (Wm.of (L_index_Index_Kind y3.2 y3.1)) fun y4 =>
  Wm.bind (cond (decide ((y4 == 1) = true)) (L_index_New y3.2 y2.1 2) (Wm.ret (default, y3.2))) fun y5 =>
  Wm.bind (Wm.of (condM (y4 == 1) true (L_index_Index_Kind y5.2 y5.1))) fun y7 =>
  Wm.bind (cond (decide (((y4 == 1) && (y7 == 2)) = true)) (L_index_New y5.2 y2.1 3) (Wm.ret (default, y5.2))) fun y8 =>
  Wm.bind (Wm.of (condM ((y4 == 1) && (y7 == 2)) true (L_index_Index_Kind y8.2 y8.1))) fun y10 =>
  Wm.bind (cond (decide ((((y4 == 1) && (y7 == 2)) && (y10 == 3)) = true)) (L_index_New y8.2 y2.1 4) (Wm.ret (default, y8.2))) fun y11 =>
  Wm.bind (Wm.of (condM (((y4 == 1) && (y7 == 2)) && (y10 == 3)) true (L_index_Index_Kind y11.2 y11.1))) fun y13 =>
  Wm.bind (cond (decide (((((y4 == 1) && (y7 == 2)) && (y10 == 3)) && (y13 == 3)) = true)) (L_index_New y11.2 y2.1 9) (Wm.ret (default, y11.2))) fun y14 =>
  Wm.bind (Wm.of (some (((((y4 == 1) && (y7 == 2)) && (y10 == 3)) && (y13 == 3)) && y14.1.isNone))) fun z1 =>
  Wm.ret (z1, y14.2)
def L_law14_IndexNone (hp : Pool Cell) (x0 : List (BitVec 8)) (x1 : Int) (x2 : T_api_Entry) : Wm (Bool × (Pool Cell)) :=
  Wm.bind (Wm.of (L_mcase_New x0 120)) fun y1 =>
  Wm.bind (Wm.of (L_mcase_Codes_Schema y1)) fun y2 =>
  Wm.bind (L_index_New hp y2.1 x1) fun y3 =>
  cond (y3.1.isNone != ((decide (x1 < 1)) || (decide (x1 > 4)))) (
    Wm.ret (false, y3.2)) (
    Wm.bind (Wm.of (L_index_Index_Find y3.2 (none : Ref) x2)) fun y4 =>
    Wm.bind (L_index_Index_Remove y3.2 (none : Ref) x2) fun y5 =>
    Wm.bind (Wm.of (L_index_Index_Lookup y5.2.2 (none : Ref) (default : Vector T_api_Value 4))) fun y6 =>
    Wm.bind (Wm.of (condM (((!y4.2) && (!y5.2.1)) && (!y6.2)) true (L_index_Index_Kind y5.2.2 (none : Ref)))) fun y7 =>
    Wm.bind (Wm.of (condM ((((!y4.2) && (!y5.2.1)) && (!y6.2)) && (y7 == 0)) true (L_index_Index_Len y5.2.2 (none : Ref)))) fun y8 =>
    Wm.bind (cond (decide ((((((!y4.2) && (!y5.2.1)) && (!y6.2)) && (y7 == 0)) && (y8 == 0)) = true)) (L_index_Index_Put y5.2.2 (none : Ref) ({ (default : T_api_Installed) with f_Entry := x2 } : T_api_Installed)) (Wm.ret (default, y5.2.2))) fun y9 =>
    Wm.bind (Wm.of (some ((((((!y4.2) && (!y5.2.1)) && (!y6.2)) && (y7 == 0)) && (y8 == 0)) && (!y9.1)))) fun z1 =>
    Wm.bind (cond (decide (z1 = true)) (L_law14_begun y9.2) (Wm.ret (default, y9.2))) fun y11 =>
    Wm.ret (z1 && y11.1, y11.2))
end Go.Proofs.YtmnggbjcnoffeaaGreat

