/-
  The law CubeParts, in plain Lean. Conditions: none.
-/
import Derived.Test.YtodajdohokmjnaaCub
import Derived.Test.YtodajdohokmjnaaFix
namespace Go.Proofs.Ytodajdohokmjnaa
open Go Gv
set_option linter.unusedVariables false
set_option linter.unusedSimpArgs false
set_option maxRecDepth 100000

theorem inB_own {a : T_cube_Cube} {q q' : Vector T_api_Value 4} (ha : can a) (h : ∀ i, i < 512 → cv q' i = (cv a.f_Value i || (cv q i && !cv a.f_Mask i))) : inB a q' = true := by
  rw [inB_iff]
  intro i hi
  rw [h i hi]
  cases hv : cv a.f_Value i
  · cases cv a.f_Mask i <;> simp
  · simp [ha i hi hv]

end Go.Proofs.Ytodajdohokmjnaa
