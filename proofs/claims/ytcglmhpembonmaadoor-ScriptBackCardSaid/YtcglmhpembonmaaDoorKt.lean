/-
  The types of the data, and facts on their tables. Conditions: none.
-/
import Derived.Test.YtcglmhpembonmaaDoorRows
import Derived.Test.YtcglmhpembonmaaDoorKl1
import Derived.Test.YtcglmhpembonmaaDoorKl2
namespace Go.Proofs.YtcglmhpembonmaaDoor
open Go Gv
set_option linter.unusedVariables false
set_option linter.unusedSimpArgs false
set_option maxRecDepth 100000
structure T_api_Call where
  f_Controller : Int
  f_Data : List (BitVec 8)
  deriving DecidableEq, Inhabited
instance : Rp T_api_Call := .str (sxb Int (sxa (List (BitVec 8)))) (fun x => (x.f_Controller, x.f_Data)) 2
abbrev le_T_api_Call_Controller : Lens T_api_Call Int := .str sf2 0 T_api_Call.f_Controller fun b g => { b with f_Controller := g }
abbrev le_T_api_Call_Data : Lens T_api_Call (List (BitVec 8)) := .str (sft sf1) 1 T_api_Call.f_Data fun b g => { b with f_Data := g }
instance : Zc T_api_Call := ⟨Zc.cells Int ++ Zc.cells (List (BitVec 8)), fun A W => ⟨by rfl, Zc.ok (α := Int) A W, Zc.ok (α := List (BitVec 8)) A W⟩⟩
instance ty36 : Ty Tryd.prog 36 T_api_Call := Ty.of (by rfl) Tryd.underlying36 (by kernel_rfl)
instance zr36 : Zr Tryd.prog 36 (default : T_api_Call) := Zr.of (by kernel_rfl)
instance ty25 : Ty Tryd.prog 25 (List (BitVec 8)) := Ty.of (by rfl) Tryd.underlying25 (by kernel_rfl)
instance fd36_1 : Kf Tryd.prog 36 1 le_T_api_Call_Data := ⟨FdA.of Tryd.underlying36 rfl rfl ty25 rfl⟩
instance ty5 : Ty Tryd.prog 5 (BitVec 8) := Ty.of (by rfl) Tryd.underlying5 (by kernel_rfl)
theorem mixed : Tryd.prog.follows .mixedOrders = true := by kernel_rfl
theorem en5 : En Tryd.prog 5 := ⟨_, Tryd.func5, rfl, by kernel_rfl⟩
theorem en6 : En Tryd.prog 6 := ⟨_, Tryd.func6, rfl, by kernel_rfl⟩
instance ty3 : Ty Tryd.prog 3 Int := Ty.of (by rfl) Tryd.underlying3 (by kernel_rfl)
instance fd36_0 : Kf Tryd.prog 36 0 le_T_api_Call_Controller := ⟨FdA.of Tryd.underlying36 rfl rfl ty3 rfl⟩
instance zr5 : Zr Tryd.prog 5 (default : BitVec 8) := Zr.of (by kernel_rfl)
instance ty9 : Ty Tryd.prog 9 ByteArray := Ty.of (by rfl) Tryd.underlying9 (by kernel_rfl)
instance zr9 : Zr Tryd.prog 9 (default : ByteArray) := Zr.of (by kernel_rfl)
theorem en18 : En Tryd.prog 18 := ⟨_, Tryd.func18, rfl, by kernel_rfl⟩
theorem en9 : En Tryd.prog 9 := ⟨_, Tryd.func9, rfl, by kernel_rfl⟩
theorem en11 : En Tryd.prog 11 := ⟨_, Tryd.func11, rfl, by kernel_rfl⟩
instance bu36 : Bu Tryd.prog 36 #[(0, 1), (1, 1)] := ⟨_, Tryd.underlying36, by kernel_rfl, by kernel_rfl⟩
theorem en12 : En Tryd.prog 12 := ⟨_, Tryd.func12, rfl, by kernel_rfl⟩
end Go.Proofs.YtcglmhpembonmaaDoor

