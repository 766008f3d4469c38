/-
  The types of the data, and facts on their tables. Conditions: none.
-/
import Derived.Test.YtmlgdkccoomiaaaRows
import Derived.Test.YtmlgdkccoomiaaaJl1
import Derived.Test.YtmlgdkccoomiaaaJl2
namespace Go.Proofs.Ytmlgdkccoomiaaa
open Go Gv
set_option linter.unusedVariables false
set_option linter.unusedSimpArgs false
set_option maxRecDepth 100000
structure T_mcase_Codes where
  f_l : List (BitVec 8)
  f_at : Int
  deriving DecidableEq, Inhabited
instance : Rp T_mcase_Codes := .str (sxb (List (BitVec 8)) (sxa Int)) (fun x => (x.f_l, x.f_at)) 2
abbrev le_T_mcase_Codes_l : Lens T_mcase_Codes (List (BitVec 8)) := .str sf2 0 T_mcase_Codes.f_l fun b g => { b with f_l := g }
abbrev le_T_mcase_Codes_at : Lens T_mcase_Codes Int := .str (sft sf1) 1 T_mcase_Codes.f_at fun b g => { b with f_at := g }
instance : Zc T_mcase_Codes := ⟨Zc.cells (List (BitVec 8)) ++ Zc.cells Int, fun A W => ⟨by rfl, Zc.ok (α := List (BitVec 8)) A W, Zc.ok (α := Int) A W⟩⟩
instance ty5 : Ty Try.prog 5 (BitVec 8) := Ty.of (by rfl) Try.underlying5 (by kernel_rfl)
instance ks22 : Ks Try.prog 22 5 (BitVec 8) := ⟨Try.underlying22, ty5⟩
instance zr64 : Zr Try.prog 64 (default : T_mcase_Codes) := Zr.of (by kernel_rfl)
instance ty22 : Ty Try.prog 22 (List (BitVec 8)) := Ty.of (by rfl) Try.underlying22 (by kernel_rfl)
instance fd64_0 : Kf Try.prog 64 0 le_T_mcase_Codes_l := ⟨FdA.of Try.underlying64 rfl rfl ty22 rfl⟩
instance bu64 : Bu Try.prog 64 #[(0, 1), (1, 1)] := ⟨_, Try.underlying64, by kernel_rfl, by kernel_rfl⟩
theorem en4 : En Try.prog 4 := ⟨_, Try.func4, rfl, by kernel_rfl⟩
structure T_api_Field where
  f_ID : Int
  f_Name : ByteArray
  f_Bits : Int
  deriving DecidableEq, Inhabited
instance : Rp T_api_Field := .str (sxb Int (sxb ByteArray (sxa Int))) (fun x => (x.f_ID, x.f_Name, x.f_Bits)) 3
abbrev le_T_api_Field_ID : Lens T_api_Field Int := .str sf2 0 T_api_Field.f_ID fun b g => { b with f_ID := g }
abbrev le_T_api_Field_Name : Lens T_api_Field ByteArray := .str (sft sf2) 1 T_api_Field.f_Name fun b g => { b with f_Name := g }
abbrev le_T_api_Field_Bits : Lens T_api_Field Int := .str (sft (sft sf1)) 2 T_api_Field.f_Bits fun b g => { b with f_Bits := g }
instance : Zc T_api_Field := ⟨Zc.cells Int ++ Zc.cells ByteArray ++ Zc.cells Int, fun A W => ⟨by rfl, Zc.ok (α := Int) A W, Zc.ok (α := ByteArray) A W, Zc.ok (α := Int) A W⟩⟩
structure T_api_Header where
  f_ID : Int
  f_Name : ByteArray
  f_Fields : List Int
  deriving DecidableEq, Inhabited
instance : Rp T_api_Header := .str (sxb Int (sxb ByteArray (sxa (List Int)))) (fun x => (x.f_ID, x.f_Name, x.f_Fields)) 3
abbrev le_T_api_Header_ID : Lens T_api_Header Int := .str sf2 0 T_api_Header.f_ID fun b g => { b with f_ID := g }
abbrev le_T_api_Header_Name : Lens T_api_Header ByteArray := .str (sft sf2) 1 T_api_Header.f_Name fun b g => { b with f_Name := g }
abbrev le_T_api_Header_Fields : Lens T_api_Header (List Int) := .str (sft (sft sf1)) 2 T_api_Header.f_Fields fun b g => { b with f_Fields := g }
instance : Zc T_api_Header := ⟨Zc.cells Int ++ Zc.cells ByteArray ++ Zc.cells (List Int), fun A W => ⟨by rfl, Zc.ok (α := Int) A W, Zc.ok (α := ByteArray) A W, Zc.ok (α := List Int) A W⟩⟩
structure T_api_Value where
  f_Hi : BitVec 64
  f_Lo : BitVec 64
  deriving DecidableEq, Inhabited
instance : Rp T_api_Value := .str (sxb (BitVec 64) (sxa (BitVec 64))) (fun x => (x.f_Hi, x.f_Lo)) 2
abbrev le_T_api_Value_Hi : Lens T_api_Value (BitVec 64) := .str sf2 0 T_api_Value.f_Hi fun b g => { b with f_Hi := g }
abbrev le_T_api_Value_Lo : Lens T_api_Value (BitVec 64) := .str (sft sf1) 1 T_api_Value.f_Lo fun b g => { b with f_Lo := g }
instance : Zc T_api_Value := ⟨Zc.cells (BitVec 64) ++ Zc.cells (BitVec 64), fun A W => ⟨by rfl, Zc.ok (α := BitVec 64) A W, Zc.ok (α := BitVec 64) A W⟩⟩
structure T_api_Case where
  f_Value : T_api_Value
  f_Mask : T_api_Value
  f_Next : Int
  deriving DecidableEq, Inhabited
instance : Rp T_api_Case := .str (sxb T_api_Value (sxb T_api_Value (sxa Int))) (fun x => (x.f_Value, x.f_Mask, x.f_Next)) 5
abbrev le_T_api_Case_Value : Lens T_api_Case T_api_Value := .str sf2 0 T_api_Case.f_Value fun b g => { b with f_Value := g }
abbrev le_T_api_Case_Mask : Lens T_api_Case T_api_Value := .str (sft sf2) 2 T_api_Case.f_Mask fun b g => { b with f_Mask := g }
abbrev le_T_api_Case_Next : Lens T_api_Case Int := .str (sft (sft sf1)) 4 T_api_Case.f_Next fun b g => { b with f_Next := g }
instance : Zc T_api_Case := ⟨Zc.cells T_api_Value ++ Zc.cells T_api_Value ++ Zc.cells Int, fun A W => ⟨by rfl, Zc.ok (α := T_api_Value) A W, Zc.ok (α := T_api_Value) A W, Zc.ok (α := Int) A W⟩⟩
structure T_api_State where
  f_ID : Int
  f_Header : Int
  f_Select : Int
  f_Cases : List T_api_Case
  f_Default : Int
  deriving DecidableEq, Inhabited
instance : Rp T_api_State := .str (sxb Int (sxb Int (sxb Int (sxb (List T_api_Case) (sxa Int))))) (fun x => (x.f_ID, x.f_Header, x.f_Select, x.f_Cases, x.f_Default)) 5
abbrev le_T_api_State_ID : Lens T_api_State Int := .str sf2 0 T_api_State.f_ID fun b g => { b with f_ID := g }
abbrev le_T_api_State_Header : Lens T_api_State Int := .str (sft sf2) 1 T_api_State.f_Header fun b g => { b with f_Header := g }
abbrev le_T_api_State_Select : Lens T_api_State Int := .str (sft (sft sf2)) 2 T_api_State.f_Select fun b g => { b with f_Select := g }
abbrev le_T_api_State_Cases : Lens T_api_State (List T_api_Case) := .str (sft (sft (sft sf2))) 3 T_api_State.f_Cases fun b g => { b with f_Cases := g }
abbrev le_T_api_State_Default : Lens T_api_State Int := .str (sft (sft (sft (sft sf1)))) 4 T_api_State.f_Default fun b g => { b with f_Default := g }
instance : Zc T_api_State := ⟨Zc.cells Int ++ Zc.cells Int ++ Zc.cells Int ++ Zc.cells (List T_api_Case) ++ Zc.cells Int, fun A W => ⟨by rfl, Zc.ok (α := Int) A W, Zc.ok (α := Int) A W, Zc.ok (α := Int) A W, Zc.ok (α := List T_api_Case) A W, Zc.ok (α := Int) A W⟩⟩
structure T_api_Param where
  f_Name : ByteArray
  f_Bits : Int
  deriving DecidableEq, Inhabited
instance : Rp T_api_Param := .str (sxb ByteArray (sxa Int)) (fun x => (x.f_Name, x.f_Bits)) 2
abbrev le_T_api_Param_Name : Lens T_api_Param ByteArray := .str sf2 0 T_api_Param.f_Name fun b g => { b with f_Name := g }
abbrev le_T_api_Param_Bits : Lens T_api_Param Int := .str (sft sf1) 1 T_api_Param.f_Bits fun b g => { b with f_Bits := g }
instance : Zc T_api_Param := ⟨Zc.cells ByteArray ++ Zc.cells Int, fun A W => ⟨by rfl, Zc.ok (α := ByteArray) A W, Zc.ok (α := Int) A W⟩⟩
structure T_api_Operand where
  f_Kind : Int
  f_N : Int
  f_Value : T_api_Value
  deriving DecidableEq, Inhabited
instance : Rp T_api_Operand := .str (sxb Int (sxb Int (sxa T_api_Value))) (fun x => (x.f_Kind, x.f_N, x.f_Value)) 4
abbrev le_T_api_Operand_Kind : Lens T_api_Operand Int := .str sf2 0 T_api_Operand.f_Kind fun b g => { b with f_Kind := g }
abbrev le_T_api_Operand_N : Lens T_api_Operand Int := .str (sft sf2) 1 T_api_Operand.f_N fun b g => { b with f_N := g }
abbrev le_T_api_Operand_Value : Lens T_api_Operand T_api_Value := .str (sft (sft sf1)) 2 T_api_Operand.f_Value fun b g => { b with f_Value := g }
instance : Zc T_api_Operand := ⟨Zc.cells Int ++ Zc.cells Int ++ Zc.cells T_api_Value, fun A W => ⟨by rfl, Zc.ok (α := Int) A W, Zc.ok (α := Int) A W, Zc.ok (α := T_api_Value) A W⟩⟩
structure T_api_Prim where
  f_Op : Int
  f_Dst : Int
  f_Src : T_api_Operand
  deriving DecidableEq, Inhabited
instance : Rp T_api_Prim := .str (sxb Int (sxb Int (sxa T_api_Operand))) (fun x => (x.f_Op, x.f_Dst, x.f_Src)) 6
abbrev le_T_api_Prim_Op : Lens T_api_Prim Int := .str sf2 0 T_api_Prim.f_Op fun b g => { b with f_Op := g }
abbrev le_T_api_Prim_Dst : Lens T_api_Prim Int := .str (sft sf2) 1 T_api_Prim.f_Dst fun b g => { b with f_Dst := g }
abbrev le_T_api_Prim_Src : Lens T_api_Prim T_api_Operand := .str (sft (sft sf1)) 2 T_api_Prim.f_Src fun b g => { b with f_Src := g }
instance : Zc T_api_Prim := ⟨Zc.cells Int ++ Zc.cells Int ++ Zc.cells T_api_Operand, fun A W => ⟨by rfl, Zc.ok (α := Int) A W, Zc.ok (α := Int) A W, Zc.ok (α := T_api_Operand) A W⟩⟩
structure T_api_Action where
  f_ID : Int
  f_Name : ByteArray
  f_Params : List T_api_Param
  f_Body : List T_api_Prim
  f_Restriction : ByteArray
  deriving DecidableEq, Inhabited
instance : Rp T_api_Action := .str (sxb Int (sxb ByteArray (sxb (List T_api_Param) (sxb (List T_api_Prim) (sxa ByteArray))))) (fun x => (x.f_ID, x.f_Name, x.f_Params, x.f_Body, x.f_Restriction)) 5
abbrev le_T_api_Action_ID : Lens T_api_Action Int := .str sf2 0 T_api_Action.f_ID fun b g => { b with f_ID := g }
abbrev le_T_api_Action_Name : Lens T_api_Action ByteArray := .str (sft sf2) 1 T_api_Action.f_Name fun b g => { b with f_Name := g }
abbrev le_T_api_Action_Params : Lens T_api_Action (List T_api_Param) := .str (sft (sft sf2)) 2 T_api_Action.f_Params fun b g => { b with f_Params := g }
abbrev le_T_api_Action_Body : Lens T_api_Action (List T_api_Prim) := .str (sft (sft (sft sf2))) 3 T_api_Action.f_Body fun b g => { b with f_Body := g }
abbrev le_T_api_Action_Restriction : Lens T_api_Action ByteArray := .str (sft (sft (sft (sft sf1)))) 4 T_api_Action.f_Restriction fun b g => { b with f_Restriction := g }
instance : Zc T_api_Action := ⟨Zc.cells Int ++ Zc.cells ByteArray ++ Zc.cells (List T_api_Param) ++ Zc.cells (List T_api_Prim) ++ Zc.cells ByteArray, fun A W => ⟨by rfl, Zc.ok (α := Int) A W, Zc.ok (α := ByteArray) A W, Zc.ok (α := List T_api_Param) A W, Zc.ok (α := List T_api_Prim) A W, Zc.ok (α := ByteArray) A W⟩⟩
structure T_api_Key where
  f_Name : ByteArray
  f_Field : Int
  f_Kind : Int
  deriving DecidableEq, Inhabited
instance : Rp T_api_Key := .str (sxb ByteArray (sxb Int (sxa Int))) (fun x => (x.f_Name, x.f_Field, x.f_Kind)) 3
abbrev le_T_api_Key_Name : Lens T_api_Key ByteArray := .str sf2 0 T_api_Key.f_Name fun b g => { b with f_Name := g }
abbrev le_T_api_Key_Field : Lens T_api_Key Int := .str (sft sf2) 1 T_api_Key.f_Field fun b g => { b with f_Field := g }
abbrev le_T_api_Key_Kind : Lens T_api_Key Int := .str (sft (sft sf1)) 2 T_api_Key.f_Kind fun b g => { b with f_Kind := g }
instance : Zc T_api_Key := ⟨Zc.cells ByteArray ++ Zc.cells Int ++ Zc.cells Int, fun A W => ⟨by rfl, Zc.ok (α := ByteArray) A W, Zc.ok (α := Int) A W, Zc.ok (α := Int) A W⟩⟩
structure T_api_Table where
  f_ID : Int
  f_Name : ByteArray
  f_Keys : List T_api_Key
  f_Actions : List Int
  f_Default : Int
  f_DefaultArgs : List T_api_Value
  f_Size : Int
  f_Restriction : ByteArray
  deriving DecidableEq, Inhabited
instance : Rp T_api_Table := .str (sxb Int (sxb ByteArray (sxb (List T_api_Key) (sxb (List Int) (sxb Int (sxb (List T_api_Value) (sxb Int (sxa ByteArray)))))))) (fun x => (x.f_ID, x.f_Name, x.f_Keys, x.f_Actions, x.f_Default, x.f_DefaultArgs, x.f_Size, x.f_Restriction)) 8
abbrev le_T_api_Table_ID : Lens T_api_Table Int := .str sf2 0 T_api_Table.f_ID fun b g => { b with f_ID := g }
abbrev le_T_api_Table_Name : Lens T_api_Table ByteArray := .str (sft sf2) 1 T_api_Table.f_Name fun b g => { b with f_Name := g }
abbrev le_T_api_Table_Keys : Lens T_api_Table (List T_api_Key) := .str (sft (sft sf2)) 2 T_api_Table.f_Keys fun b g => { b with f_Keys := g }
abbrev le_T_api_Table_Actions : Lens T_api_Table (List Int) := .str (sft (sft (sft sf2))) 3 T_api_Table.f_Actions fun b g => { b with f_Actions := g }
abbrev le_T_api_Table_Default : Lens T_api_Table Int := .str (sft (sft (sft (sft sf2)))) 4 T_api_Table.f_Default fun b g => { b with f_Default := g }
abbrev le_T_api_Table_DefaultArgs : Lens T_api_Table (List T_api_Value) := .str (sft (sft (sft (sft (sft sf2))))) 5 T_api_Table.f_DefaultArgs fun b g => { b with f_DefaultArgs := g }
abbrev le_T_api_Table_Size : Lens T_api_Table Int := .str (sft (sft (sft (sft (sft (sft sf2)))))) 6 T_api_Table.f_Size fun b g => { b with f_Size := g }
abbrev le_T_api_Table_Restriction : Lens T_api_Table ByteArray := .str (sft (sft (sft (sft (sft (sft (sft sf1))))))) 7 T_api_Table.f_Restriction fun b g => { b with f_Restriction := g }
instance : Zc T_api_Table := ⟨Zc.cells Int ++ Zc.cells ByteArray ++ Zc.cells (List T_api_Key) ++ Zc.cells (List Int) ++ Zc.cells Int ++ Zc.cells (List T_api_Value) ++ Zc.cells Int ++ Zc.cells ByteArray, fun A W => ⟨by rfl, Zc.ok (α := Int) A W, Zc.ok (α := ByteArray) A W, Zc.ok (α := List T_api_Key) A W, Zc.ok (α := List Int) A W, Zc.ok (α := Int) A W, Zc.ok (α := List T_api_Value) A W, Zc.ok (α := Int) A W, Zc.ok (α := ByteArray) A W⟩⟩
structure T_api_Stage where
  f_Table : Int
  f_Header : Int
  deriving DecidableEq, Inhabited
instance : Rp T_api_Stage := .str (sxb Int (sxa Int)) (fun x => (x.f_Table, x.f_Header)) 2
abbrev le_T_api_Stage_Table : Lens T_api_Stage Int := .str sf2 0 T_api_Stage.f_Table fun b g => { b with f_Table := g }
abbrev le_T_api_Stage_Header : Lens T_api_Stage Int := .str (sft sf1) 1 T_api_Stage.f_Header fun b g => { b with f_Header := g }
instance : Zc T_api_Stage := ⟨Zc.cells Int ++ Zc.cells Int, fun A W => ⟨by rfl, Zc.ok (α := Int) A W, Zc.ok (α := Int) A W⟩⟩
structure T_api_Grant where
  f_Table : Int
  f_Read : Bool
  f_Write : Bool
  f_Keys : List Bool
  deriving DecidableEq, Inhabited
instance : Rp T_api_Grant := .str (sxb Int (sxb Bool (sxb Bool (sxa (List Bool))))) (fun x => (x.f_Table, x.f_Read, x.f_Write, x.f_Keys)) 4
abbrev le_T_api_Grant_Table : Lens T_api_Grant Int := .str sf2 0 T_api_Grant.f_Table fun b g => { b with f_Table := g }
abbrev le_T_api_Grant_Read : Lens T_api_Grant Bool := .str (sft sf2) 1 T_api_Grant.f_Read fun b g => { b with f_Read := g }
abbrev le_T_api_Grant_Write : Lens T_api_Grant Bool := .str (sft (sft sf2)) 2 T_api_Grant.f_Write fun b g => { b with f_Write := g }
abbrev le_T_api_Grant_Keys : Lens T_api_Grant (List Bool) := .str (sft (sft (sft sf1))) 3 T_api_Grant.f_Keys fun b g => { b with f_Keys := g }
instance : Zc T_api_Grant := ⟨Zc.cells Int ++ Zc.cells Bool ++ Zc.cells Bool ++ Zc.cells (List Bool), fun A W => ⟨by rfl, Zc.ok (α := Int) A W, Zc.ok (α := Bool) A W, Zc.ok (α := Bool) A W, Zc.ok (α := List Bool) A W⟩⟩
structure T_api_Role where
  f_ID : Int
  f_Name : ByteArray
  f_Grants : List T_api_Grant
  f_Actions : List Int
  f_Quota : Int
  f_Audit : Bool
  deriving DecidableEq, Inhabited
instance : Rp T_api_Role := .str (sxb Int (sxb ByteArray (sxb (List T_api_Grant) (sxb (List Int) (sxb Int (sxa Bool)))))) (fun x => (x.f_ID, x.f_Name, x.f_Grants, x.f_Actions, x.f_Quota, x.f_Audit)) 6
abbrev le_T_api_Role_ID : Lens T_api_Role Int := .str sf2 0 T_api_Role.f_ID fun b g => { b with f_ID := g }
abbrev le_T_api_Role_Name : Lens T_api_Role ByteArray := .str (sft sf2) 1 T_api_Role.f_Name fun b g => { b with f_Name := g }
abbrev le_T_api_Role_Grants : Lens T_api_Role (List T_api_Grant) := .str (sft (sft sf2)) 2 T_api_Role.f_Grants fun b g => { b with f_Grants := g }
abbrev le_T_api_Role_Actions : Lens T_api_Role (List Int) := .str (sft (sft (sft sf2))) 3 T_api_Role.f_Actions fun b g => { b with f_Actions := g }
abbrev le_T_api_Role_Quota : Lens T_api_Role Int := .str (sft (sft (sft (sft sf2)))) 4 T_api_Role.f_Quota fun b g => { b with f_Quota := g }
abbrev le_T_api_Role_Audit : Lens T_api_Role Bool := .str (sft (sft (sft (sft (sft sf1))))) 5 T_api_Role.f_Audit fun b g => { b with f_Audit := g }
instance : Zc T_api_Role := ⟨Zc.cells Int ++ Zc.cells ByteArray ++ Zc.cells (List T_api_Grant) ++ Zc.cells (List Int) ++ Zc.cells Int ++ Zc.cells Bool, fun A W => ⟨by rfl, Zc.ok (α := Int) A W, Zc.ok (α := ByteArray) A W, Zc.ok (α := List T_api_Grant) A W, Zc.ok (α := List Int) A W, Zc.ok (α := Int) A W, Zc.ok (α := Bool) A W⟩⟩
structure T_api_Ref where
  f_Table : Int
  f_Key : Int
  f_Action : Int
  f_Param : Int
  f_ToTable : Int
  f_ToKey : Int
  deriving DecidableEq, Inhabited
instance : Rp T_api_Ref := .str (sxb Int (sxb Int (sxb Int (sxb Int (sxb Int (sxa Int)))))) (fun x => (x.f_Table, x.f_Key, x.f_Action, x.f_Param, x.f_ToTable, x.f_ToKey)) 6
abbrev le_T_api_Ref_Table : Lens T_api_Ref Int := .str sf2 0 T_api_Ref.f_Table fun b g => { b with f_Table := g }
abbrev le_T_api_Ref_Key : Lens T_api_Ref Int := .str (sft sf2) 1 T_api_Ref.f_Key fun b g => { b with f_Key := g }
abbrev le_T_api_Ref_Action : Lens T_api_Ref Int := .str (sft (sft sf2)) 2 T_api_Ref.f_Action fun b g => { b with f_Action := g }
abbrev le_T_api_Ref_ToTable : Lens T_api_Ref Int := .str (sft (sft (sft (sft sf2)))) 4 T_api_Ref.f_ToTable fun b g => { b with f_ToTable := g }
instance : Zc T_api_Ref := ⟨Zc.cells Int ++ Zc.cells Int ++ Zc.cells Int ++ Zc.cells Int ++ Zc.cells Int ++ Zc.cells Int, fun A W => ⟨by rfl, Zc.ok (α := Int) A W, Zc.ok (α := Int) A W, Zc.ok (α := Int) A W, Zc.ok (α := Int) A W, Zc.ok (α := Int) A W, Zc.ok (α := Int) A W⟩⟩
structure T_api_Schema where
  f_Fields : List T_api_Field
  f_Headers : List T_api_Header
  f_States : List T_api_State
  f_Actions : List T_api_Action
  f_Tables : List T_api_Table
  f_Stages : List T_api_Stage
  f_Roles : List T_api_Role
  f_Refs : List T_api_Ref
  f_MaxBatch : Int
  f_Budget : Int
  deriving DecidableEq, Inhabited
instance : Rp T_api_Schema := .str (sxb (List T_api_Field) (sxb (List T_api_Header) (sxb (List T_api_State) (sxb (List T_api_Action) (sxb (List T_api_Table) (sxb (List T_api_Stage) (sxb (List T_api_Role) (sxb (List T_api_Ref) (sxb Int (sxa Int)))))))))) (fun x => (x.f_Fields, x.f_Headers, x.f_States, x.f_Actions, x.f_Tables, x.f_Stages, x.f_Roles, x.f_Refs, x.f_MaxBatch, x.f_Budget)) 10
abbrev le_T_api_Schema_Fields : Lens T_api_Schema (List T_api_Field) := .str sf2 0 T_api_Schema.f_Fields fun b g => { b with f_Fields := g }
abbrev le_T_api_Schema_Headers : Lens T_api_Schema (List T_api_Header) := .str (sft sf2) 1 T_api_Schema.f_Headers fun b g => { b with f_Headers := g }
abbrev le_T_api_Schema_States : Lens T_api_Schema (List T_api_State) := .str (sft (sft sf2)) 2 T_api_Schema.f_States fun b g => { b with f_States := g }
abbrev le_T_api_Schema_Actions : Lens T_api_Schema (List T_api_Action) := .str (sft (sft (sft sf2))) 3 T_api_Schema.f_Actions fun b g => { b with f_Actions := g }
abbrev le_T_api_Schema_Tables : Lens T_api_Schema (List T_api_Table) := .str (sft (sft (sft (sft sf2)))) 4 T_api_Schema.f_Tables fun b g => { b with f_Tables := g }
abbrev le_T_api_Schema_Stages : Lens T_api_Schema (List T_api_Stage) := .str (sft (sft (sft (sft (sft sf2))))) 5 T_api_Schema.f_Stages fun b g => { b with f_Stages := g }
abbrev le_T_api_Schema_Roles : Lens T_api_Schema (List T_api_Role) := .str (sft (sft (sft (sft (sft (sft sf2)))))) 6 T_api_Schema.f_Roles fun b g => { b with f_Roles := g }
abbrev le_T_api_Schema_Refs : Lens T_api_Schema (List T_api_Ref) := .str (sft (sft (sft (sft (sft (sft (sft sf2))))))) 7 T_api_Schema.f_Refs fun b g => { b with f_Refs := g }
abbrev le_T_api_Schema_MaxBatch : Lens T_api_Schema Int := .str (sft (sft (sft (sft (sft (sft (sft (sft sf2)))))))) 8 T_api_Schema.f_MaxBatch fun b g => { b with f_MaxBatch := g }
abbrev le_T_api_Schema_Budget : Lens T_api_Schema Int := .str (sft (sft (sft (sft (sft (sft (sft (sft (sft sf1))))))))) 9 T_api_Schema.f_Budget fun b g => { b with f_Budget := g }
instance : Zc T_api_Schema := ⟨Zc.cells (List T_api_Field) ++ Zc.cells (List T_api_Header) ++ Zc.cells (List T_api_State) ++ Zc.cells (List T_api_Action) ++ Zc.cells (List T_api_Table) ++ Zc.cells (List T_api_Stage) ++ Zc.cells (List T_api_Role) ++ Zc.cells (List T_api_Ref) ++ Zc.cells Int ++ Zc.cells Int, fun A W => ⟨by rfl, Zc.ok (α := List T_api_Field) A W, Zc.ok (α := List T_api_Header) A W, Zc.ok (α := List T_api_State) A W, Zc.ok (α := List T_api_Action) A W, Zc.ok (α := List T_api_Table) A W, Zc.ok (α := List T_api_Stage) A W, Zc.ok (α := List T_api_Role) A W, Zc.ok (α := List T_api_Ref) A W, Zc.ok (α := Int) A W, Zc.ok (α := Int) A W⟩⟩
instance zr32 : Zr Try.prog 32 (default : T_api_Schema) := Zr.of (by kernel_rfl)
instance ty3 : Ty Try.prog 3 Int := Ty.of (by rfl) Try.underlying3 (by kernel_rfl)
instance fd64_1 : Kf Try.prog 64 1 le_T_mcase_Codes_at := ⟨FdA.of Try.underlying64 rfl rfl ty3 rfl⟩
theorem mixed : Try.prog.follows .mixedOrders = true := by kernel_rfl
instance kxi : Kx Try.prog := ⟨mixed⟩
theorem en23 : En Try.prog 23 := ⟨_, Try.func23, rfl, by kernel_rfl⟩
instance ku5 : Ku Try.prog 5 (.int .u8) := ⟨Try.underlying5⟩
instance ku3 : Ku Try.prog 3 (.int .i64) := ⟨Try.underlying3⟩
theorem en15 : En Try.prog 15 := ⟨_, Try.func15, rfl, by kernel_rfl⟩
instance fd32_8 : Kf Try.prog 32 8 le_T_api_Schema_MaxBatch := ⟨FdA.of Try.underlying32 rfl rfl ty3 rfl⟩
instance fd32_9 : Kf Try.prog 32 9 le_T_api_Schema_Budget := ⟨FdA.of Try.underlying32 rfl rfl ty3 rfl⟩
instance bu32 : Bu Try.prog 32 #[(0, 1), (1, 1), (2, 1), (3, 1), (4, 1), (5, 1), (6, 1), (7, 1), (8, 1), (9, 1)] := ⟨_, Try.underlying32, by kernel_rfl, by kernel_rfl⟩
instance ty32 : Ty Try.prog 32 T_api_Schema := Ty.of (by rfl) Try.underlying32 (by kernel_rfl)
instance zr67 : Zr Try.prog 67 (default : T_api_Field) := Zr.of (by kernel_rfl)
instance fd67_0 : Kf Try.prog 67 0 le_T_api_Field_ID := ⟨FdA.of Try.underlying67 rfl rfl ty3 rfl⟩
instance ty9 : Ty Try.prog 9 ByteArray := Ty.of (by rfl) Try.underlying9 (by kernel_rfl)
instance fd67_1 : Kf Try.prog 67 1 le_T_api_Field_Name := ⟨FdA.of Try.underlying67 rfl rfl ty9 rfl⟩
instance fd67_2 : Kf Try.prog 67 2 le_T_api_Field_Bits := ⟨FdA.of Try.underlying67 rfl rfl ty3 rfl⟩
instance bu67 : Bu Try.prog 67 #[(0, 1), (1, 1), (2, 1)] := ⟨_, Try.underlying67, by kernel_rfl, by kernel_rfl⟩
instance ty67 : Ty Try.prog 67 T_api_Field := Ty.of (by rfl) Try.underlying67 (by kernel_rfl)
instance ks23 : Ks Try.prog 23 67 T_api_Field := ⟨Try.underlying23, ty67⟩
instance ty23 : Ty Try.prog 23 (List T_api_Field) := Ty.of (by rfl) Try.underlying23 (by kernel_rfl)
instance fd32_0 : Kf Try.prog 32 0 le_T_api_Schema_Fields := ⟨FdA.of Try.underlying32 rfl rfl ty23 rfl⟩
instance ks68 : Ks Try.prog 68 3 Int := ⟨Try.underlying68, ty3⟩
instance zr3 : Zr Try.prog 3 (default : Int) := Zr.of (by kernel_rfl)
instance zr70 : Zr Try.prog 70 (default : T_api_Header) := Zr.of (by kernel_rfl)
instance fd70_0 : Kf Try.prog 70 0 le_T_api_Header_ID := ⟨FdA.of Try.underlying70 rfl rfl ty3 rfl⟩
instance fd70_1 : Kf Try.prog 70 1 le_T_api_Header_Name := ⟨FdA.of Try.underlying70 rfl rfl ty9 rfl⟩
instance ty68 : Ty Try.prog 68 (List Int) := Ty.of (by rfl) Try.underlying68 (by kernel_rfl)
instance fd70_2 : Kf Try.prog 70 2 le_T_api_Header_Fields := ⟨FdA.of Try.underlying70 rfl rfl ty68 rfl⟩
instance bu70 : Bu Try.prog 70 #[(0, 1), (1, 1), (2, 1)] := ⟨_, Try.underlying70, by kernel_rfl, by kernel_rfl⟩
instance ty70 : Ty Try.prog 70 T_api_Header := Ty.of (by rfl) Try.underlying70 (by kernel_rfl)
instance ks24 : Ks Try.prog 24 70 T_api_Header := ⟨Try.underlying24, ty70⟩
instance ty24 : Ty Try.prog 24 (List T_api_Header) := Ty.of (by rfl) Try.underlying24 (by kernel_rfl)
instance fd32_1 : Kf Try.prog 32 1 le_T_api_Schema_Headers := ⟨FdA.of Try.underlying32 rfl rfl ty24 rfl⟩
instance zr96 : Zr Try.prog 96 (default : T_api_State) := Zr.of (by kernel_rfl)
instance fd96_0 : Kf Try.prog 96 0 le_T_api_State_ID := ⟨FdA.of Try.underlying96 rfl rfl ty3 rfl⟩
instance fd96_1 : Kf Try.prog 96 1 le_T_api_State_Header := ⟨FdA.of Try.underlying96 rfl rfl ty3 rfl⟩
instance fd96_2 : Kf Try.prog 96 2 le_T_api_State_Select := ⟨FdA.of Try.underlying96 rfl rfl ty3 rfl⟩
instance fd96_4 : Kf Try.prog 96 4 le_T_api_State_Default := ⟨FdA.of Try.underlying96 rfl rfl ty3 rfl⟩
instance bu96 : Bu Try.prog 96 #[(0, 1), (1, 1), (2, 1), (3, 1), (4, 1)] := ⟨_, Try.underlying96, by kernel_rfl, by kernel_rfl⟩
instance ty96 : Ty Try.prog 96 T_api_State := Ty.of (by rfl) Try.underlying96 (by kernel_rfl)
instance zr47 : Zr Try.prog 47 (default : T_api_Value) := Zr.of (by kernel_rfl)
instance ty45 : Ty Try.prog 45 (BitVec 64) := Ty.of (by rfl) Try.underlying45 (by kernel_rfl)
instance fd47_1 : Kf Try.prog 47 1 le_T_api_Value_Lo := ⟨FdA.of Try.underlying47 rfl rfl ty45 rfl⟩
instance bu47 : Bu Try.prog 47 #[(0, 1), (1, 1)] := ⟨_, Try.underlying47, by kernel_rfl, by kernel_rfl⟩
instance zr98 : Zr Try.prog 98 (default : T_api_Case) := Zr.of (by kernel_rfl)
instance ty47 : Ty Try.prog 47 T_api_Value := Ty.of (by rfl) Try.underlying47 (by kernel_rfl)
instance fd98_0 : Kf Try.prog 98 0 le_T_api_Case_Value := ⟨FdA.of Try.underlying98 rfl rfl ty47 rfl⟩
instance fd98_1 : Kf Try.prog 98 1 le_T_api_Case_Mask := ⟨FdA.of Try.underlying98 rfl rfl ty47 rfl⟩
instance fd98_2 : Kf Try.prog 98 2 le_T_api_Case_Next := ⟨FdA.of Try.underlying98 rfl rfl ty3 rfl⟩
instance bu98 : Bu Try.prog 98 #[(0, 2), (2, 2), (4, 1)] := ⟨_, Try.underlying98, by kernel_rfl, by kernel_rfl⟩
instance ty98 : Ty Try.prog 98 T_api_Case := Ty.of (by rfl) Try.underlying98 (by kernel_rfl)
instance ks94 : Ks Try.prog 94 98 T_api_Case := ⟨Try.underlying94, ty98⟩
instance ty94 : Ty Try.prog 94 (List T_api_Case) := Ty.of (by rfl) Try.underlying94 (by kernel_rfl)
instance fd96_3 : Kf Try.prog 96 3 le_T_api_State_Cases := ⟨FdA.of Try.underlying96 rfl rfl ty94 rfl⟩
theorem en20 : En Try.prog 20 := ⟨_, Try.func20, rfl, by kernel_rfl⟩
instance ku45 : Ku Try.prog 45 (.int .u64) := ⟨Try.underlying45⟩
theorem zh96_3 : Zh Try.prog 96 [3] := by unfold Zh; kernel_rfl
instance ks25 : Ks Try.prog 25 96 T_api_State := ⟨Try.underlying25, ty96⟩
theorem en16 : En Try.prog 16 := ⟨_, Try.func16, rfl, by kernel_rfl⟩
instance zr100 : Zr Try.prog 100 (default : T_api_Operand) := Zr.of (by kernel_rfl)
instance fd100_0 : Kf Try.prog 100 0 le_T_api_Operand_Kind := ⟨FdA.of Try.underlying100 rfl rfl ty3 rfl⟩
instance bu100 : Bu Try.prog 100 #[(0, 1), (1, 1), (2, 2)] := ⟨_, Try.underlying100, by kernel_rfl, by kernel_rfl⟩
instance ty100 : Ty Try.prog 100 T_api_Operand := Ty.of (by rfl) Try.underlying100 (by kernel_rfl)
instance zr104 : Zr Try.prog 104 (default : T_api_Action) := Zr.of (by kernel_rfl)
instance fd104_0 : Kf Try.prog 104 0 le_T_api_Action_ID := ⟨FdA.of Try.underlying104 rfl rfl ty3 rfl⟩
instance fd104_1 : Kf Try.prog 104 1 le_T_api_Action_Name := ⟨FdA.of Try.underlying104 rfl rfl ty9 rfl⟩
instance bu104 : Bu Try.prog 104 #[(0, 1), (1, 1), (2, 1), (3, 1), (4, 1)] := ⟨_, Try.underlying104, by kernel_rfl, by kernel_rfl⟩
instance zr106 : Zr Try.prog 106 (default : T_api_Prim) := Zr.of (by kernel_rfl)
instance fd106_0 : Kf Try.prog 106 0 le_T_api_Prim_Op := ⟨FdA.of Try.underlying106 rfl rfl ty3 rfl⟩
instance bu106 : Bu Try.prog 106 #[(0, 1), (1, 1), (2, 4)] := ⟨_, Try.underlying106, by kernel_rfl, by kernel_rfl⟩
instance ty106 : Ty Try.prog 106 T_api_Prim := Ty.of (by rfl) Try.underlying106 (by kernel_rfl)
instance ks102 : Ks Try.prog 102 106 T_api_Prim := ⟨Try.underlying102, ty106⟩
instance ty102 : Ty Try.prog 102 (List T_api_Prim) := Ty.of (by rfl) Try.underlying102 (by kernel_rfl)
instance fd104_3 : Kf Try.prog 104 3 le_T_api_Action_Body := ⟨FdA.of Try.underlying104 rfl rfl ty102 rfl⟩
instance zr108 : Zr Try.prog 108 (default : T_api_Param) := Zr.of (by kernel_rfl)
instance fd108_0 : Kf Try.prog 108 0 le_T_api_Param_Name := ⟨FdA.of Try.underlying108 rfl rfl ty9 rfl⟩
instance fd108_1 : Kf Try.prog 108 1 le_T_api_Param_Bits := ⟨FdA.of Try.underlying108 rfl rfl ty3 rfl⟩
instance bu108 : Bu Try.prog 108 #[(0, 1), (1, 1)] := ⟨_, Try.underlying108, by kernel_rfl, by kernel_rfl⟩
instance ty108 : Ty Try.prog 108 T_api_Param := Ty.of (by rfl) Try.underlying108 (by kernel_rfl)
instance ks101 : Ks Try.prog 101 108 T_api_Param := ⟨Try.underlying101, ty108⟩
instance fd106_2 : Kf Try.prog 106 2 le_T_api_Prim_Src := ⟨FdA.of Try.underlying106 rfl rfl ty100 rfl⟩
instance ty101 : Ty Try.prog 101 (List T_api_Param) := Ty.of (by rfl) Try.underlying101 (by kernel_rfl)
instance fd104_2 : Kf Try.prog 104 2 le_T_api_Action_Params := ⟨FdA.of Try.underlying104 rfl rfl ty101 rfl⟩
instance fd106_1 : Kf Try.prog 106 1 le_T_api_Prim_Dst := ⟨FdA.of Try.underlying106 rfl rfl ty3 rfl⟩
instance fd100_1 : Kf Try.prog 100 1 le_T_api_Operand_N := ⟨FdA.of Try.underlying100 rfl rfl ty3 rfl⟩
instance fd100_2 : Kf Try.prog 100 2 le_T_api_Operand_Value := ⟨FdA.of Try.underlying100 rfl rfl ty47 rfl⟩
instance ty104 : Ty Try.prog 104 T_api_Action := Ty.of (by rfl) Try.underlying104 (by kernel_rfl)
instance ks26 : Ks Try.prog 26 104 T_api_Action := ⟨Try.underlying26, ty104⟩
instance fd104_4 : Kf Try.prog 104 4 le_T_api_Action_Restriction := ⟨FdA.of Try.underlying104 rfl rfl ty9 rfl⟩
theorem en17 : En Try.prog 17 := ⟨_, Try.func17, rfl, by kernel_rfl⟩
instance zr110 : Zr Try.prog 110 (default : T_api_Key) := Zr.of (by kernel_rfl)
instance fd110_0 : Kf Try.prog 110 0 le_T_api_Key_Name := ⟨FdA.of Try.underlying110 rfl rfl ty9 rfl⟩
instance fd110_1 : Kf Try.prog 110 1 le_T_api_Key_Field := ⟨FdA.of Try.underlying110 rfl rfl ty3 rfl⟩
instance fd110_2 : Kf Try.prog 110 2 le_T_api_Key_Kind := ⟨FdA.of Try.underlying110 rfl rfl ty3 rfl⟩
instance bu110 : Bu Try.prog 110 #[(0, 1), (1, 1), (2, 1)] := ⟨_, Try.underlying110, by kernel_rfl, by kernel_rfl⟩
instance ty110 : Ty Try.prog 110 T_api_Key := Ty.of (by rfl) Try.underlying110 (by kernel_rfl)
instance ks79 : Ks Try.prog 79 110 T_api_Key := ⟨Try.underlying79, ty110⟩
instance zr81 : Zr Try.prog 81 (default : T_api_Table) := Zr.of (by kernel_rfl)
instance fd81_0 : Kf Try.prog 81 0 le_T_api_Table_ID := ⟨FdA.of Try.underlying81 rfl rfl ty3 rfl⟩
instance fd81_1 : Kf Try.prog 81 1 le_T_api_Table_Name := ⟨FdA.of Try.underlying81 rfl rfl ty9 rfl⟩
instance ty79 : Ty Try.prog 79 (List T_api_Key) := Ty.of (by rfl) Try.underlying79 (by kernel_rfl)
instance fd81_2 : Kf Try.prog 81 2 le_T_api_Table_Keys := ⟨FdA.of Try.underlying81 rfl rfl ty79 rfl⟩
instance fd81_3 : Kf Try.prog 81 3 le_T_api_Table_Actions := ⟨FdA.of Try.underlying81 rfl rfl ty68 rfl⟩
instance fd81_4 : Kf Try.prog 81 4 le_T_api_Table_Default := ⟨FdA.of Try.underlying81 rfl rfl ty3 rfl⟩
instance fd81_6 : Kf Try.prog 81 6 le_T_api_Table_Size := ⟨FdA.of Try.underlying81 rfl rfl ty3 rfl⟩
instance bu81 : Bu Try.prog 81 #[(0, 1), (1, 1), (2, 1), (3, 1), (4, 1), (5, 1), (6, 1), (7, 1)] := ⟨_, Try.underlying81, by kernel_rfl, by kernel_rfl⟩
instance ty81 : Ty Try.prog 81 T_api_Table := Ty.of (by rfl) Try.underlying81 (by kernel_rfl)
theorem zh81_2 : Zh Try.prog 81 [2] := by unfold Zh; kernel_rfl
theorem zh81_n : Zh Try.prog 81 [] := by unfold Zh; kernel_rfl
instance ks38 : Ks Try.prog 38 47 T_api_Value := ⟨Try.underlying38, ty47⟩
instance ty38 : Ty Try.prog 38 (List T_api_Value) := Ty.of (by rfl) Try.underlying38 (by kernel_rfl)
instance fd81_5 : Kf Try.prog 81 5 le_T_api_Table_DefaultArgs := ⟨FdA.of Try.underlying81 rfl rfl ty38 rfl⟩
instance ks27 : Ks Try.prog 27 81 T_api_Table := ⟨Try.underlying27, ty81⟩
instance ks111 : Ks Try.prog 111 9 ByteArray := ⟨Try.underlying111, ty9⟩
instance zr9 : Zr Try.prog 9 (default : ByteArray) := Zr.of (by kernel_rfl)
instance ty111 : Ty Try.prog 111 (List ByteArray) := Ty.of (by rfl) Try.underlying111 (by kernel_rfl)
instance ks112 : Ks Try.prog 112 111 (List ByteArray) := ⟨Try.underlying112, ty111⟩
instance zr111 : Zr Try.prog 111 (default : List ByteArray) := Zr.of (by kernel_rfl)
instance fd81_7 : Kf Try.prog 81 7 le_T_api_Table_Restriction := ⟨FdA.of Try.underlying81 rfl rfl ty9 rfl⟩
theorem en18 : En Try.prog 18 := ⟨_, Try.func18, rfl, by kernel_rfl⟩
instance ty25 : Ty Try.prog 25 (List T_api_State) := Ty.of (by rfl) Try.underlying25 (by kernel_rfl)
instance fd32_2 : Kf Try.prog 32 2 le_T_api_Schema_States := ⟨FdA.of Try.underlying32 rfl rfl ty25 rfl⟩
instance ty26 : Ty Try.prog 26 (List T_api_Action) := Ty.of (by rfl) Try.underlying26 (by kernel_rfl)
instance fd32_3 : Kf Try.prog 32 3 le_T_api_Schema_Actions := ⟨FdA.of Try.underlying32 rfl rfl ty26 rfl⟩
instance ty27 : Ty Try.prog 27 (List T_api_Table) := Ty.of (by rfl) Try.underlying27 (by kernel_rfl)
instance fd32_4 : Kf Try.prog 32 4 le_T_api_Schema_Tables := ⟨FdA.of Try.underlying32 rfl rfl ty27 rfl⟩
instance zr115 : Zr Try.prog 115 (default : T_api_Role) := Zr.of (by kernel_rfl)
instance fd115_0 : Kf Try.prog 115 0 le_T_api_Role_ID := ⟨FdA.of Try.underlying115 rfl rfl ty3 rfl⟩
instance fd115_1 : Kf Try.prog 115 1 le_T_api_Role_Name := ⟨FdA.of Try.underlying115 rfl rfl ty9 rfl⟩
instance fd115_3 : Kf Try.prog 115 3 le_T_api_Role_Actions := ⟨FdA.of Try.underlying115 rfl rfl ty68 rfl⟩
instance fd115_4 : Kf Try.prog 115 4 le_T_api_Role_Quota := ⟨FdA.of Try.underlying115 rfl rfl ty3 rfl⟩
instance ty4 : Ty Try.prog 4 Bool := Ty.of (by rfl) Try.underlying4 (by kernel_rfl)
instance fd115_5 : Kf Try.prog 115 5 le_T_api_Role_Audit := ⟨FdA.of Try.underlying115 rfl rfl ty4 rfl⟩
instance bu115 : Bu Try.prog 115 #[(0, 1), (1, 1), (2, 1), (3, 1), (4, 1), (5, 1)] := ⟨_, Try.underlying115, by kernel_rfl, by kernel_rfl⟩
instance ty115 : Ty Try.prog 115 T_api_Role := Ty.of (by rfl) Try.underlying115 (by kernel_rfl)
instance ks116 : Ks Try.prog 116 4 Bool := ⟨Try.underlying116, ty4⟩
instance zr4 : Zr Try.prog 4 (default : Bool) := Zr.of (by kernel_rfl)
instance ty113 : Ty Try.prog 113 (List T_api_Grant) := Ty.of (by rfl) Try.underlying113 (by kernel_rfl)
instance fd115_2 : Kf Try.prog 115 2 le_T_api_Role_Grants := ⟨FdA.of Try.underlying115 rfl rfl ty113 rfl⟩
instance zr118 : Zr Try.prog 118 (default : T_api_Grant) := Zr.of (by kernel_rfl)
instance fd118_0 : Kf Try.prog 118 0 le_T_api_Grant_Table := ⟨FdA.of Try.underlying118 rfl rfl ty3 rfl⟩
instance fd118_1 : Kf Try.prog 118 1 le_T_api_Grant_Read := ⟨FdA.of Try.underlying118 rfl rfl ty4 rfl⟩
instance fd118_2 : Kf Try.prog 118 2 le_T_api_Grant_Write := ⟨FdA.of Try.underlying118 rfl rfl ty4 rfl⟩
instance ty116 : Ty Try.prog 116 (List Bool) := Ty.of (by rfl) Try.underlying116 (by kernel_rfl)
instance fd118_3 : Kf Try.prog 118 3 le_T_api_Grant_Keys := ⟨FdA.of Try.underlying118 rfl rfl ty116 rfl⟩
instance bu118 : Bu Try.prog 118 #[(0, 1), (1, 1), (2, 1), (3, 1)] := ⟨_, Try.underlying118, by kernel_rfl, by kernel_rfl⟩
instance ty118 : Ty Try.prog 118 T_api_Grant := Ty.of (by rfl) Try.underlying118 (by kernel_rfl)
instance ks113 : Ks Try.prog 113 118 T_api_Grant := ⟨Try.underlying113, ty118⟩
theorem zh115_2 : Zh Try.prog 115 [2] := by unfold Zh; kernel_rfl
instance ks29 : Ks Try.prog 29 115 T_api_Role := ⟨Try.underlying29, ty115⟩
theorem en19 : En Try.prog 19 := ⟨_, Try.func19, rfl, by kernel_rfl⟩
instance ty29 : Ty Try.prog 29 (List T_api_Role) := Ty.of (by rfl) Try.underlying29 (by kernel_rfl)
instance fd32_6 : Kf Try.prog 32 6 le_T_api_Schema_Roles := ⟨FdA.of Try.underlying32 rfl rfl ty29 rfl⟩
instance zr76 : Zr Try.prog 76 (default : T_api_Stage) := Zr.of (by kernel_rfl)
instance fd76_0 : Kf Try.prog 76 0 le_T_api_Stage_Table := ⟨FdA.of Try.underlying76 rfl rfl ty3 rfl⟩
instance fd76_1 : Kf Try.prog 76 1 le_T_api_Stage_Header := ⟨FdA.of Try.underlying76 rfl rfl ty3 rfl⟩
instance bu76 : Bu Try.prog 76 #[(0, 1), (1, 1)] := ⟨_, Try.underlying76, by kernel_rfl, by kernel_rfl⟩
instance ty76 : Ty Try.prog 76 T_api_Stage := Ty.of (by rfl) Try.underlying76 (by kernel_rfl)
instance ks28 : Ks Try.prog 28 76 T_api_Stage := ⟨Try.underlying28, ty76⟩
instance ty28 : Ty Try.prog 28 (List T_api_Stage) := Ty.of (by rfl) Try.underlying28 (by kernel_rfl)
instance fd32_5 : Kf Try.prog 32 5 le_T_api_Schema_Stages := ⟨FdA.of Try.underlying32 rfl rfl ty28 rfl⟩
instance ty30 : Ty Try.prog 30 (List T_api_Ref) := Ty.of (by rfl) Try.underlying30 (by kernel_rfl)
instance fd32_7 : Kf Try.prog 32 7 le_T_api_Schema_Refs := ⟨FdA.of Try.underlying32 rfl rfl ty30 rfl⟩
instance zr78 : Zr Try.prog 78 (default : T_api_Ref) := Zr.of (by kernel_rfl)
instance fd78_0 : Kf Try.prog 78 0 le_T_api_Ref_Table := ⟨FdA.of Try.underlying78 rfl rfl ty3 rfl⟩
instance fd78_2 : Kf Try.prog 78 2 le_T_api_Ref_Action := ⟨FdA.of Try.underlying78 rfl rfl ty3 rfl⟩
instance fd78_4 : Kf Try.prog 78 4 le_T_api_Ref_ToTable := ⟨FdA.of Try.underlying78 rfl rfl ty3 rfl⟩
instance bu78 : Bu Try.prog 78 #[(0, 1), (1, 1), (2, 1), (3, 1), (4, 1), (5, 1)] := ⟨_, Try.underlying78, by kernel_rfl, by kernel_rfl⟩
instance ty78 : Ty Try.prog 78 T_api_Ref := Ty.of (by rfl) Try.underlying78 (by kernel_rfl)
instance ks30 : Ks Try.prog 30 78 T_api_Ref := ⟨Try.underlying30, ty78⟩
theorem zh32_5_7 : Zh Try.prog 32 [5, 7] := by unfold Zh; kernel_rfl
instance fd78_1 : Kf Try.prog 78 1 le_T_api_Ref_Key := ⟨FdA.of Try.underlying78 rfl rfl ty3 rfl⟩
theorem en5 : En Try.prog 5 := ⟨_, Try.func5, rfl, by kernel_rfl⟩
instance zr49 : Zr Try.prog 49 (default : Vector T_api_Value 4) := Zr.of (by kernel_rfl)
structure T_api_Match where
  f_Present : Bool
  f_Value : T_api_Value
  f_Mask : T_api_Value
  f_Prefix : Int
  f_High : T_api_Value
  deriving DecidableEq, Inhabited
instance : Rp T_api_Match := .str (sxb Bool (sxb T_api_Value (sxb T_api_Value (sxb Int (sxa T_api_Value))))) (fun x => (x.f_Present, x.f_Value, x.f_Mask, x.f_Prefix, x.f_High)) 8
abbrev le_T_api_Match_Present : Lens T_api_Match Bool := .str sf2 0 T_api_Match.f_Present fun b g => { b with f_Present := g }
abbrev le_T_api_Match_Value : Lens T_api_Match T_api_Value := .str (sft sf2) 1 T_api_Match.f_Value fun b g => { b with f_Value := g }
abbrev le_T_api_Match_Mask : Lens T_api_Match T_api_Value := .str (sft (sft sf2)) 3 T_api_Match.f_Mask fun b g => { b with f_Mask := g }
abbrev le_T_api_Match_Prefix : Lens T_api_Match Int := .str (sft (sft (sft sf2))) 5 T_api_Match.f_Prefix fun b g => { b with f_Prefix := g }
abbrev le_T_api_Match_High : Lens T_api_Match T_api_Value := .str (sft (sft (sft (sft sf1)))) 6 T_api_Match.f_High fun b g => { b with f_High := g }
instance : Zc T_api_Match := ⟨Zc.cells Bool ++ Zc.cells T_api_Value ++ Zc.cells T_api_Value ++ Zc.cells Int ++ Zc.cells T_api_Value, fun A W => ⟨by rfl, Zc.ok (α := Bool) A W, Zc.ok (α := T_api_Value) A W, Zc.ok (α := T_api_Value) A W, Zc.ok (α := Int) A W, Zc.ok (α := T_api_Value) A W⟩⟩
structure T_api_Entry where
  f_Table : Int
  f_Matches : List T_api_Match
  f_Priority : Int
  f_Action : Int
  f_Args : List T_api_Value
  deriving DecidableEq, Inhabited
instance : Rp T_api_Entry := .str (sxb Int (sxb (List T_api_Match) (sxb Int (sxb Int (sxa (List T_api_Value)))))) (fun x => (x.f_Table, x.f_Matches, x.f_Priority, x.f_Action, x.f_Args)) 5
abbrev le_T_api_Entry_Table : Lens T_api_Entry Int := .str sf2 0 T_api_Entry.f_Table fun b g => { b with f_Table := g }
abbrev le_T_api_Entry_Matches : Lens T_api_Entry (List T_api_Match) := .str (sft sf2) 1 T_api_Entry.f_Matches fun b g => { b with f_Matches := g }
abbrev le_T_api_Entry_Priority : Lens T_api_Entry Int := .str (sft (sft sf2)) 2 T_api_Entry.f_Priority fun b g => { b with f_Priority := g }
abbrev le_T_api_Entry_Action : Lens T_api_Entry Int := .str (sft (sft (sft sf2))) 3 T_api_Entry.f_Action fun b g => { b with f_Action := g }
abbrev le_T_api_Entry_Args : Lens T_api_Entry (List T_api_Value) := .str (sft (sft (sft (sft sf1)))) 4 T_api_Entry.f_Args fun b g => { b with f_Args := g }
instance : Zc T_api_Entry := ⟨Zc.cells Int ++ Zc.cells (List T_api_Match) ++ Zc.cells Int ++ Zc.cells Int ++ Zc.cells (List T_api_Value), fun A W => ⟨by rfl, Zc.ok (α := Int) A W, Zc.ok (α := List T_api_Match) A W, Zc.ok (α := Int) A W, Zc.ok (α := Int) A W, Zc.ok (α := List T_api_Value) A W⟩⟩
structure T_api_Installed where
  f_Entry : T_api_Entry
  f_Number : Int
  f_Owner : Int
  deriving DecidableEq, Inhabited
instance : Rp T_api_Installed := .str (sxb T_api_Entry (sxb Int (sxa Int))) (fun x => (x.f_Entry, x.f_Number, x.f_Owner)) 7
abbrev le_T_api_Installed_Entry : Lens T_api_Installed T_api_Entry := .str sf2 0 T_api_Installed.f_Entry fun b g => { b with f_Entry := g }
abbrev le_T_api_Installed_Number : Lens T_api_Installed Int := .str (sft sf2) 5 T_api_Installed.f_Number fun b g => { b with f_Number := g }
abbrev le_T_api_Installed_Owner : Lens T_api_Installed Int := .str (sft (sft sf1)) 6 T_api_Installed.f_Owner fun b g => { b with f_Owner := g }
instance : Zc T_api_Installed := ⟨Zc.cells T_api_Entry ++ Zc.cells Int ++ Zc.cells Int, fun A W => ⟨by rfl, Zc.ok (α := T_api_Entry) A W, Zc.ok (α := Int) A W, Zc.ok (α := Int) A W⟩⟩
structure T_ordered_List where
  f_schema : T_api_Schema
  f_l : List T_api_Installed
  deriving DecidableEq, Inhabited
instance : Rp T_ordered_List := .str (sxb T_api_Schema (sxa (List T_api_Installed))) (fun x => (x.f_schema, x.f_l)) 11
abbrev le_T_ordered_List_schema : Lens T_ordered_List T_api_Schema := .str sf2 0 T_ordered_List.f_schema fun b g => { b with f_schema := g }
abbrev le_T_ordered_List_l : Lens T_ordered_List (List T_api_Installed) := .str (sft sf1) 10 T_ordered_List.f_l fun b g => { b with f_l := g }
instance : Zc T_ordered_List := ⟨Zc.cells T_api_Schema ++ Zc.cells (List T_api_Installed), fun A W => ⟨by rfl, Zc.ok (α := T_api_Schema) A W, Zc.ok (α := List T_api_Installed) A W⟩⟩
instance zr42 : Zr Try.prog 42 (default : T_api_Installed) := Zr.of (by kernel_rfl)
instance ku36 : Ku Try.prog 36 (.pointer 87) := ⟨Try.underlying36⟩
instance ty49 : Ty Try.prog 49 (Vector T_api_Value 4) := Ty.of (by rfl) Try.underlying49 (by kernel_rfl)
theorem en21 : En Try.prog 21 := ⟨_, Try.func21, rfl, by kernel_rfl⟩
instance ty51 : Ty Try.prog 51 (List T_api_Installed) := Ty.of (by rfl) Try.underlying51 (by kernel_rfl)
instance fd87_1 : Kf Try.prog 87 1 le_T_ordered_List_l := ⟨FdA.of Try.underlying87 rfl rfl ty51 rfl⟩
instance ty42 : Ty Try.prog 42 T_api_Installed := Ty.of (by rfl) Try.underlying42 (by kernel_rfl)
instance ks51 : Ks Try.prog 51 42 T_api_Installed := ⟨Try.underlying51, ty42⟩
instance ty40 : Ty Try.prog 40 T_api_Entry := Ty.of (by rfl) Try.underlying40 (by kernel_rfl)
instance fd40_0 : Kf Try.prog 40 0 le_T_api_Entry_Table := ⟨FdA.of Try.underlying40 rfl rfl ty3 rfl⟩
theorem en72 : En Try.prog 72 := ⟨_, Try.func72, rfl, by kernel_rfl⟩
theorem en71 : En Try.prog 71 := ⟨_, Try.func71, rfl, by kernel_rfl⟩
theorem en77 : En Try.prog 77 := ⟨_, Try.func77, rfl, by kernel_rfl⟩
theorem en76 : En Try.prog 76 := ⟨_, Try.func76, rfl, by kernel_rfl⟩
instance fd58_0 : Kf Try.prog 58 0 le_T_api_Match_Present := ⟨FdA.of Try.underlying58 rfl rfl ty4 rfl⟩
instance fd58_1 : Kf Try.prog 58 1 le_T_api_Match_Value := ⟨FdA.of Try.underlying58 rfl rfl ty47 rfl⟩
theorem eqv45 : Eqv Try.prog 45 (BitVec 64) 1 := eqv_u64 (K := .u64) Try.underlying45
theorem eqv47 : Eqv Try.prog 47 T_api_Value 2 := eqv_struct (k := 1) rfl Try.underlying47 (by kernel_rfl) fun d hd A W xs ys x y hx hy => by
  refine Eq.trans (eqf_cons le_T_api_Value_Hi ty45 rfl (by rfl) eqv45 (by omega) hx hy (eqf_cons le_T_api_Value_Lo ty45 rfl (by rfl) eqv45 (by omega) hx hy (eqf_nil))) ?_
  congr 1
  rw [Bool.eq_iff_iff]
  simp only [Bool.and_eq_true, decide_eq_true_eq, and_true]
  cases x; cases y
  simp [Lens.str, le_T_api_Value_Hi, le_T_api_Value_Lo]

theorem eqg47 : Try.prog.eqGuardType Try.prog.depth 47 = false := by kernel_rfl
instance kq47 : Kq Try.prog 47 T_api_Value 2 := ⟨eqv47, eqg47, rfl⟩
instance fd58_3 : Kf Try.prog 58 3 le_T_api_Match_Prefix := ⟨FdA.of Try.underlying58 rfl rfl ty3 rfl⟩
instance fd47_0 : Kf Try.prog 47 0 le_T_api_Value_Hi := ⟨FdA.of Try.underlying47 rfl rfl ty45 rfl⟩
instance ku139 : Ku Try.prog 139 (.int .u64) := ⟨Try.underlying139⟩
instance fd58_2 : Kf Try.prog 58 2 le_T_api_Match_Mask := ⟨FdA.of Try.underlying58 rfl rfl ty47 rfl⟩
instance fd58_4 : Kf Try.prog 58 4 le_T_api_Match_High := ⟨FdA.of Try.underlying58 rfl rfl ty47 rfl⟩
instance ty37 : Ty Try.prog 37 (List T_api_Match) := Ty.of (by rfl) Try.underlying37 (by kernel_rfl)
instance fd40_1 : Kf Try.prog 40 1 le_T_api_Entry_Matches := ⟨FdA.of Try.underlying40 rfl rfl ty37 rfl⟩
instance ty58 : Ty Try.prog 58 T_api_Match := Ty.of (by rfl) Try.underlying58 (by kernel_rfl)
instance ks37 : Ks Try.prog 37 58 T_api_Match := ⟨Try.underlying37, ty58⟩
theorem en47 : En Try.prog 47 := ⟨_, Try.func47, rfl, by kernel_rfl⟩
instance ar49 : Ar Try.prog 49 4 2 := Ar.of Try.underlying49 ty47 rfl
theorem en46 : En Try.prog 46 := ⟨_, Try.func46, rfl, by kernel_rfl⟩
instance fd87_0 : Kf Try.prog 87 0 le_T_ordered_List_schema := ⟨FdA.of Try.underlying87 rfl rfl ty32 rfl⟩
instance fd42_0 : Kf Try.prog 42 0 le_T_api_Installed_Entry := ⟨FdA.of Try.underlying42 rfl rfl ty40 rfl⟩
instance zr40 : Zr Try.prog 40 (default : T_api_Entry) := Zr.of (by kernel_rfl)
instance zr58 : Zr Try.prog 58 (default : T_api_Match) := Zr.of (by kernel_rfl)
instance fd40_4 : Kf Try.prog 40 4 le_T_api_Entry_Args := ⟨FdA.of Try.underlying40 rfl rfl ty38 rfl⟩
theorem en31 : En Try.prog 31 := ⟨_, Try.func31, rfl, by kernel_rfl⟩
instance bu42 : Bu Try.prog 42 #[(0, 5), (5, 1), (6, 1)] := ⟨_, Try.underlying42, by kernel_rfl, by kernel_rfl⟩
theorem en6 : En Try.prog 6 := ⟨_, Try.func6, rfl, by kernel_rfl⟩
instance zr87 : Zr Try.prog 87 (default : T_ordered_List) := Zr.of (by kernel_rfl)
instance bu87 : Bu Try.prog 87 #[(0, 10), (10, 1)] := ⟨_, Try.underlying87, by kernel_rfl, by kernel_rfl⟩
theorem en7 : En Try.prog 7 := ⟨_, Try.func7, rfl, by kernel_rfl⟩
instance bu40 : Bu Try.prog 40 #[(0, 1), (1, 1), (2, 1), (3, 1), (4, 1)] := ⟨_, Try.underlying40, by kernel_rfl, by kernel_rfl⟩
theorem fv47_1 : Fv Try.prog 47 1 45 1 := ⟨_, _, Try.underlying47, rfl, rfl, rfl⟩
instance bu58 : Bu Try.prog 58 #[(0, 1), (1, 2), (3, 2), (5, 1), (6, 2)] := ⟨_, Try.underlying58, by kernel_rfl, by kernel_rfl⟩
theorem en35 : En Try.prog 35 := ⟨_, Try.func35, rfl, by kernel_rfl⟩
instance fd40_2 : Kf Try.prog 40 2 le_T_api_Entry_Priority := ⟨FdA.of Try.underlying40 rfl rfl ty3 rfl⟩
instance fd40_3 : Kf Try.prog 40 3 le_T_api_Entry_Action := ⟨FdA.of Try.underlying40 rfl rfl ty3 rfl⟩
theorem fv104_2 : Fv Try.prog 104 2 101 2 := ⟨_, _, Try.underlying104, rfl, rfl, rfl⟩
theorem zh40_1_4 : Zh Try.prog 40 [1, 4] := by unfold Zh; kernel_rfl
theorem en24 : En Try.prog 24 := ⟨_, Try.func24, rfl, by kernel_rfl⟩
instance fd42_1 : Kf Try.prog 42 1 le_T_api_Installed_Number := ⟨FdA.of Try.underlying42 rfl rfl ty3 rfl⟩
instance fd42_2 : Kf Try.prog 42 2 le_T_api_Installed_Owner := ⟨FdA.of Try.underlying42 rfl rfl ty3 rfl⟩
theorem en42 : En Try.prog 42 := ⟨_, Try.func42, rfl, by kernel_rfl⟩
theorem en41 : En Try.prog 41 := ⟨_, Try.func41, rfl, by kernel_rfl⟩
theorem en26 : En Try.prog 26 := ⟨_, Try.func26, rfl, by kernel_rfl⟩
theorem en80 : En Try.prog 80 := ⟨_, Try.func80, rfl, by kernel_rfl⟩
theorem en79 : En Try.prog 79 := ⟨_, Try.func79, rfl, by kernel_rfl⟩
theorem en38 : En Try.prog 38 := ⟨_, Try.func38, rfl, by kernel_rfl⟩
theorem en39 : En Try.prog 39 := ⟨_, Try.func39, rfl, by kernel_rfl⟩
theorem en40 : En Try.prog 40 := ⟨_, Try.func40, rfl, by kernel_rfl⟩
theorem en25 : En Try.prog 25 := ⟨_, Try.func25, rfl, by kernel_rfl⟩
instance ku4 : Ku Try.prog 4 .bool := ⟨Try.underlying4⟩
theorem zh87_10 : Zh Try.prog 87 [10] := by unfold Zh; kernel_rfl
theorem en8 : En Try.prog 8 := ⟨_, Try.func8, rfl, by kernel_rfl⟩
theorem en9 : En Try.prog 9 := ⟨_, Try.func9, rfl, by kernel_rfl⟩
theorem en10 : En Try.prog 10 := ⟨_, Try.func10, rfl, by kernel_rfl⟩
theorem en28 : En Try.prog 28 := ⟨_, Try.func28, rfl, by kernel_rfl⟩
instance zr149 : Zr Try.prog 149 (default : Vector (List Int) 6) := Zr.of (by kernel_rfl)
instance ar149 : Ar Try.prog 149 6 1 := Ar.of Try.underlying149 ty68 rfl
theorem zh149_0_1_2_3_4_5 : Zh Try.prog 149 [0, 1, 2, 3, 4, 5] := by unfold Zh; kernel_rfl
instance ty149 : Ty Try.prog 149 (Vector (List Int) 6) := Ty.of (by rfl) Try.underlying149 (by kernel_rfl)
theorem en30 : En Try.prog 30 := ⟨_, Try.func30, rfl, by kernel_rfl⟩
instance zr161 : Zr Try.prog 161 (default : Vector Bool 128) := Zr.of (by kernel_rfl)
instance ar161 : Ar Try.prog 161 128 1 := Ar.of Try.underlying161 ty4 rfl
instance ty161 : Ty Try.prog 161 (Vector Bool 128) := Ty.of (by rfl) Try.underlying161 (by kernel_rfl)
theorem en11 : En Try.prog 11 := ⟨_, Try.func11, rfl, by kernel_rfl⟩
theorem en14 : En Try.prog 14 := ⟨_, Try.func14, rfl, by kernel_rfl⟩
end Go.Proofs.Ytmlgdkccoomiaaa

